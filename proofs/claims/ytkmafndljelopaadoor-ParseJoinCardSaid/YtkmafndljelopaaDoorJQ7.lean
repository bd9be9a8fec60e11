/- A part of this claim. -/
import Derived.Test.YtkmafndljelopaaDoorJQ0
import Derived.Test.YtkmafndljelopaaDoorJQ2
namespace Go.Proofs.YtkmafndljelopaaDoor.Q
open Go.RowKit Go.Proofs.YtkmafndljelopaaDoorW.PrintWords Go.Proofs.YtkmafndljelopaaDoorW.PrintLast Go.Proofs.YtkmafndljelopaaDoorW.PrintMore
attribute [local go_sem] tS tT uD sZ tQ tC uX sO
set_option linter.unusedVariables false
set_option linter.unusedSimpArgs false
def U9.f (j9:ByteArray) (kK:Int) (CH:ByteArray) (JE:Int):Option (Bool):=some (j9.toList==CH.toList)
set_option maxHeartbeats 8000000 in
set_option maxRecDepth 100000 in
theorem U9.calls (j9:ByteArray) (kK:Int) (CH:ByteArray) (JE:Int) (r:Bool) (w:World) (h:U9.f j9 kK CH JE=some r):
  Calls Tryd.prog 52 #[.agg #[.string j9,.int .i64 kK],.agg #[.string CH,.int .i64 JE]] w fun e w'=>e= .returned (.bool r)∧Below w.heap.size w w':=by
 have YF:=Tryd.underlying59;have HB:=aC.mk (Below.refl w.heap.size w);have H:(some (j9.toList==CH.toList))=some r:=h;clear h;obtain rfl:=Option.some.inj H;go_enter Tryd.func52,Tryd.ntmps52
 go_wp2_with (first|((with_reducible refine iJ (N:=2) rfl ?_);refine lF ?hg (N:=2) ?hd (cs:=#[.string j9,.int .i64 kK]) (t:=59) ?hr ?_;(case hd=>rfl);(case hg=>rfl);(case hr=>first|(go_simp;done)|(go_simp;rfl));intro wK hg w3 hbox hb;have aM:=aC.mk (bQ (by repeat (first|(with_reducible first|exact HB.out|apply aI|apply aN|apply aJ)|exact HB.out)) hb);have aU:=aC.mk (hbox);have aX:=aC.mk ((by rw [hg];exact (bZ (by repeat (first|(with_reducible first|exact HB.out|apply aI|apply aN|apply aJ)|exact HB.out))):w.heap.size≤wK));have bD:=aC.mk ((by rw [hg];exact (bZ (by repeat (first|(with_reducible first|exact HB.out|apply aI|apply aN|apply aJ)|exact HB.out))):w.heap.size≤wK));clear HB;have HB:=aM;have wM:=aU;have aLA:=aX;have N0:=bD;clear aM aU aX bD;clear hb hbox hg)|((with_reducible refine iJ (N:=3) rfl ?_);refine lF ?hg (N:=3) ?hd (cs:=#[.string CH,.int .i64 JE]) (t:=59) ?hr ?_;(case hd=>rfl);(case hg=>rfl);(case hr=>first|(go_simp;done)|(go_simp;rfl));intro CP hg w4 hbox hb;have aM:=aC.mk (dB (g:=wK) (o:=.cells #[.string j9,.int .i64 kK] 59 (0,0)) (by (with_reducible repeat (first|refine aW ?_ _|refine aV ?_|refine aQ ?_ _));exact wM.out) hb);have aU:=aC.mk (bQ (by repeat (first|(with_reducible first|exact HB.out|apply aI|apply aN|apply aJ|refine a8 ?_ N0.out)|exact HB.out)) hb);have aX:=aC.mk (hbox);have bD:=aC.mk ((by rw [hg];exact (bZ (by repeat (first|(with_reducible first|exact HB.out|apply aI|apply aN|apply aJ|refine a8 ?_ N0.out)|exact HB.out))):w.heap.size≤CP));have bY:=aC.mk ((by rw [hg];exact (bZ (by repeat (first|(with_reducible first|exact HB.out|apply aI|apply aN|apply aJ|refine a8 ?_ N0.out)|exact HB.out))):w.heap.size≤CP));have cM:=aC.mk ((by rw [hg];exact Nat.ne_of_lt (iR (g:=wK) (o:=.cells #[.string j9,.int .i64 kK] 59 (0,0)) (by (with_reducible repeat (first|refine aW ?_ _|refine aV ?_|refine aQ ?_ _));exact wM.out)):wK≠CP));have dH:=aC.mk ((by rw [hg];exact Nat.ne_of_gt (iR (g:=wK) (o:=.cells #[.string j9,.int .i64 kK] 59 (0,0)) (by (with_reducible repeat (first|refine aW ?_ _|refine aV ?_|refine aQ ?_ _));exact wM.out)):CP≠wK));clear wM;clear HB;have wM:=aM;have HB:=aU;have MY:=aX;have aH4:=bD;have ak1:=bY;have atS:=cM;have atM:=dH;clear aM aU aX bD bY cM dH;clear hb hbox hg;have arI:=atS.out;have aA6:=atM.out;have auO:w4.cell? ⟨wK,0,none⟩=some (.string j9):=(aD wM.out 0).trans rfl;have ap4:w4.cell? ⟨wK,1,none⟩=some (.int .i64 kK):=(aD wM.out 1).trans rfl;have arG:=aT wM.out 0;have alR:=aT wM.out 1;have LP:w4.cell? ⟨CP,0,none⟩=some (.string CH):=(aD MY.out 0).trans rfl;have L7:w4.cell? ⟨CP,1,none⟩=some (.int .i64 JE):=(aD MY.out 1).trans rfl;have NW:=aT MY.out 0;have ML:=aT MY.out 1))
 go_ret
 exact ⟨by first|rfl|(simp [fJ,fK]<;>rfl)|(simp [*,fJ,fK]<;>rfl),by repeat (first|(with_reducible first|exact HB.out|apply aI|apply aN|apply aJ|refine a8 ?_ N0.out|refine a8 ?_ ak1.out)|exact HB.out)⟩
def jU.l0:Nat→List (S59)→List (S59)→Int→Option (Bool)
 |0,_,_,_=>none
 |k+1,x0,x1,x5=>if x5<(x0.length:Int) then (if 0≤x5 then (if x5<(x1.length:Int) then (if ((dE x0 x5).f0).toList=((dE x1 x5).f0).toList then (jU.l0 k x0 x1 (wrap64 (x5+1))) else (some false)) else (none)) else (none)) else (some true)
def jU.f (k:Nat) (l0:List (S59)) (l1:List (S59)):Option (Bool):=if (l0.length:Int)=(l1.length:Int) then (jU.l0 k l0 l1 0) else (some false)
theorem jU.jT: ∀ k,(∀ y0 y1 y2,LeO (jU.l0 k y0 y1 y2) (jU.l0 (k+1) y0 y1 y2))
 |0=>fun _ _ _ r h=>by simp [jU.l0] at h
 |k+1=>by
  have dU:=jU.jT k
  ·intro y0 y1 y2;unfold jU.l0
   repeat' first
   |(with_reducible exact dU _ _ _)
   |(with_reducible exact LeO.refl _)
   |(with_reducible exact LeO.none _)
   |(with_reducible refine LeO.ite ?_ ?_)
   |(with_reducible refine LeO.bind ?_ (fun _=>?_))
   |exact dU _ _ _
   |exact LeO.none _
   |refine LeO.ite ?_ ?_
   |refine LeO.bind ?_ (fun _=>?_)
theorem jU.mono: ∀ a0 a1 k,LeO (jU.f k a0 a1) (jU.f (k+1) a0 a1):=by
 intro a0 a1 k;have dU:=jU.jT k;unfold jU.f
 repeat' first
   |(with_reducible exact dU _ _ _)
   |(with_reducible exact LeO.refl _)
   |(with_reducible exact LeO.none _)
   |(with_reducible refine LeO.ite ?_ ?_)
   |(with_reducible refine LeO.bind ?_ (fun _=>?_))
   |exact dU _ _ _
   |exact LeO.none _
   |refine LeO.ite ?_ ?_
   |refine LeO.bind ?_ (fun _=>?_)
set_option maxHeartbeats 8000000 in
set_option maxRecDepth 100000 in
theorem jU.calls (k:Nat) (A0:Option Addr) (c0:Nat) (l0:List (S59)) (A1:Option Addr) (c1:Nat) (l1:List (S59)) (r:Bool) (w:World) (eX:Kd.C k59 w A0 l0.length l0) (fC:l0.length≤c0) (jM:Kd.C k59 w A1 l1.length l1) (lK:l1.length≤c1) (h:jU.f k l0 l1=some r):
  Calls Tryd.prog 41 #[.slice A0 l0.length c0,.slice A1 l1.length c1] w fun e w'=>e= .returned (.bool r)∧Drawn0 w w':=by
 have fG:=aC.mk eX;have lO:=aC.mk fC;clear eX fC;have nX:=aC.mk jM;have pZ:=aC.mk lK;clear jM lK;have H:(if (l0.length:Int)=(l1.length:Int) then (jU.l0 k l0 l1 0) else (some false))=some r:=h;clear h;by_cases c3:(l0.length:Int)=(l1.length:Int)
 ·rw [if_pos c3] at H;have j8:((l0.length:Int)==(l1.length:Int))=true:=beq_iff_eq.mpr c3;have wZ:((l0.length:Int) !=(l1.length:Int))=false:=bne_eq_false_iff_eq.mpr c3;have afC:(l0.length==l1.length)=true:=by first|simpa using c3|(simp at c3 ⊢;omega)
  clear c3;have H':=aC.mk H;clear H;go_enter Tryd.func41,Tryd.ntmps41
  go_wp2
  repeat (go_quiet (fail);try go_wp2)
  go_loopg [5] k (fun kq v5 w'=>∃ (gD:Int),v5= .int .i64 gD∧aC (jU.l0 kq l0 l1 gD=some r)∧aC (kq≤k)∧Drawn0 w w')
  case atStart=>exact ⟨(0),(by first|rfl|(simp;done)|(simp [*];done)),H',⟨Nat.le_refl _⟩,by repeat (first|exact Drawn0.refl _|apply Drawn0.step)⟩
  case round=>
   clear H';try clear c1
   try clear p2
   try clear c3
   try clear j8
   try clear wZ
   try clear afC
   obtain ⟨gD,rfl,HA,dI,⟨m1,rfl⟩⟩:=hrel;cases gk with
   |zero=>exact absurd HA.out (by simp [jU.l0])
   |succ k1=>
    have H:=HA.out;clear HA;simp only [jU.l0] at H;by_cases c4:gD<(l0.length:Int)
    ·rw [if_pos c4] at H;have nN:decide (gD<(l0.length:Int))=true:=decide_eq_true c4;clear c4;by_cases c5:0≤gD
     ·rw [if_pos c5] at H;have mI:decide (0≤gD)=true:=decide_eq_true c5;clear c5;by_cases c6:gD<(l1.length:Int)
      ·rw [if_pos c6] at H;have sC:decide (gD<(l1.length:Int))=true:=decide_eq_true c6;clear c6;by_cases c7:((dE l0 gD).f0).toList=((dE l1 gD).f0).toList
       ·rw [if_pos c7] at H;have rX:(((dE l0 gD).f0).toList==((dE l1 gD).f0).toList)=true:=beq_iff_eq.mpr c7;have rT:(((dE l0 gD).f0).toList !=((dE l1 gD).f0).toList)=false:=bne_eq_false_iff_eq.mpr c7;clear c7;have H':=aC.mk H;clear H;have BZ:0≤(gD:Int):=of_decide_eq_true (by assumption);have BG:gD<(l0.length:Int):=of_decide_eq_true (by assumption);obtain ⟨av6,YE,auX,atP⟩:=wD fG.out gD BZ BG;cases YE
        replace BZ:=eq_true BZ;replace BG:=eq_true BG;have AV:0≤(gD:Int):=of_decide_eq_true (by assumption);have BC:gD<(l1.length:Int):=of_decide_eq_true (by assumption);obtain ⟨at5,VT,awP,ayL⟩:=wD nX.out gD AV BC;cases VT
        replace AV:=eq_true AV;replace BC:=eq_true BC;go_wp2
        repeat (go_quiet (fail);try go_wp2)
        go_roundg k1
        case measure=>have:=dI.out;omega
        case rel=>exact ⟨(wrap64 (gD+1)),(by first|rfl|(simp;done)|(simp [*];done)),H',⟨by have:=dI.out;omega⟩,by repeat (first|exact Drawn0.refl _|apply Drawn0.step)⟩
       ·rw [if_neg c7] at H;have rX:(((dE l0 gD).f0).toList==((dE l1 gD).f0).toList)=false:=beq_eq_false_iff_ne.mpr c7;have rT:(((dE l0 gD).f0).toList !=((dE l1 gD).f0).toList)=true:=bne_iff_ne.mpr c7;obtain rfl:=Option.some.inj H;have BZ:0≤(gD:Int):=of_decide_eq_true (by assumption);have BG:gD<(l0.length:Int):=of_decide_eq_true (by assumption);obtain ⟨av6,YE,auX,atP⟩:=wD fG.out gD BZ BG;cases YE
        replace BZ:=eq_true BZ;replace BG:=eq_true BG;have AV:0≤(gD:Int):=of_decide_eq_true (by assumption);have BC:gD<(l1.length:Int):=of_decide_eq_true (by assumption);obtain ⟨at5,VT,awP,ayL⟩:=wD nX.out gD AV BC;cases VT
        replace AV:=eq_true AV;replace BC:=eq_true BC;go_wp2
        repeat (go_quiet (fail);try go_wp2)
        go_ret
        exact ⟨by first|rfl|(simp;done)|(simp [*];done),by repeat (first|exact Drawn0.refl _|apply Drawn0.step)⟩
      ·rw [if_neg c6] at H;exact absurd H (by simp)
     ·rw [if_neg c5] at H;exact absurd H (by simp)
    ·rw [if_neg c4] at H;have nN:decide (gD<(l0.length:Int))=false:=decide_eq_false c4;clear c4;obtain rfl:=Option.some.inj H;go_wp2
     repeat (go_quiet (fail);try go_wp2)
     go_ret
     exact ⟨by first|rfl|(simp;done)|(simp [*];done),by repeat (first|exact Drawn0.refl _|apply Drawn0.step)⟩
 ·rw [if_neg c3] at H;have j8:((l0.length:Int)==(l1.length:Int))=false:=beq_eq_false_iff_ne.mpr c3;have wZ:((l0.length:Int) !=(l1.length:Int))=true:=bne_iff_ne.mpr c3;have afC:(l0.length==l1.length)=false:=by first|simpa using c3|(simp at c3 ⊢;omega)
  obtain rfl:=Option.some.inj H;go_enter Tryd.func41,Tryd.ntmps41
  go_wp2
  repeat (go_quiet (fail);try go_wp2)
  go_ret
  exact ⟨by first|rfl|(simp;done)|(simp [*];done),by repeat (first|exact Drawn0.refl _|apply Drawn0.step)⟩
def DS.f (k:Nat) (l0:List (S105)) (l1:List (S105)) (l2:List (S105)) (l3:List (S105)):Option (Bool):=(dX.f k l0).bind fun EM=>(if EM=true then ((dX.f k l1).bind fun vD=>(if vD=true then ((dX.f k l2).bind fun qR=>(if qR=true then ((dX.f k l3).bind fun nE=>(some nE)) else (some false))) else (some false))) else (some false))
theorem DS.mono: ∀ a0 a1 a2 a3 k,LeO (DS.f k a0 a1 a2 a3) (DS.f (k+1) a0 a1 a2 a3):=by
 intro a0 a1 a2 a3 k;unfold DS.f
 repeat' first
   |(with_reducible exact dX.mono _ _)
   |(with_reducible exact LeO.refl _)
   |(with_reducible exact LeO.none _)
   |(with_reducible refine LeO.ite ?_ ?_)
   |(with_reducible refine LeO.bind ?_ (fun _=>?_))
   |exact dX.mono _ _
   |exact LeO.none _
   |refine LeO.ite ?_ ?_
   |refine LeO.bind ?_ (fun _=>?_)
set_option maxHeartbeats 8000000 in
set_option maxRecDepth 100000 in
theorem DS.calls (k:Nat) (A0:Option Addr) (c0:Nat) (l0:List (S105)) (A1:Option Addr) (c1:Nat) (l1:List (S105)) (A2:Option Addr) (c2:Nat) (l2:List (S105)) (A3:Option Addr) (c3:Nat) (l3:List (S105)) (r:Bool) (w:World) (eX:Kd.C k105 w A0 l0.length l0) (fC:l0.length≤c0) (jM:Kd.C k105 w A1 l1.length l1) (lK:l1.length≤c1) (yS:Kd.C k105 w A2 l2.length l2) (nW:l2.length≤c2) (GF:Kd.C k105 w A3 l3.length l3) (ID:l3.length≤c3) (h:DS.f k l0 l1 l2 l3=some r):
  Calls Tryd.prog 22 #[.slice A0 l0.length c0,.slice A1 l1.length c1,.slice A2 l2.length c2,.slice A3 l3.length c3] w fun e w'=>e= .returned (.bool r)∧Below w.heap.size w w':=by
 have fG:=aC.mk eX;have lO:=aC.mk fC;clear eX fC;have nX:=aC.mk jM;have pZ:=aC.mk lK;clear jM lK;have nF:=aC.mk yS;have uJ:=aC.mk nW;clear yS nW;have N5:=aC.mk GF;have DV:=aC.mk ID;clear GF ID;have HB:=aC.mk (Below.refl w.heap.size w);have H:((dX.f k l0).bind fun EM=>(if EM=true then ((dX.f k l1).bind fun vD=>(if vD=true then ((dX.f k l2).bind fun qR=>(if qR=true then ((dX.f k l3).bind fun nE=>(some nE)) else (some false))) else (some false))) else (some false)))=some r:=h;clear h;replace H:=Option.bind_eq_some_iff.mp H;obtain ⟨EM,agG,H⟩:=H;replace H:(if EM=true then ((dX.f k l1).bind fun vD=>(if vD=true then ((dX.f k l2).bind fun qR=>(if qR=true then ((dX.f k l3).bind fun nE=>(some nE)) else (some false))) else (some false))) else (some false))=some r:=H;have A5:=aC.mk agG;clear agG;by_cases c6:EM=true
 ·subst c6;have H1:((dX.f k l1).bind fun vD=>(if vD=true then ((dX.f k l2).bind fun qR=>(if qR=true then ((dX.f k l3).bind fun nE=>(some nE)) else (some false))) else (some false)))=some r:=by rw [if_pos rfl] at H;exact H
  clear H;have H:=H1;clear H1;replace H:=Option.bind_eq_some_iff.mp H;obtain ⟨vD,IV,H⟩:=H;replace H:(if vD=true then ((dX.f k l2).bind fun qR=>(if qR=true then ((dX.f k l3).bind fun nE=>(some nE)) else (some false))) else (some false))=some r:=H;have A7:=aC.mk IV;clear IV;by_cases c8:vD=true
  ·subst c8;have H1:((dX.f k l2).bind fun qR=>(if qR=true then ((dX.f k l3).bind fun nE=>(some nE)) else (some false)))=some r:=by rw [if_pos rfl] at H;exact H
   clear H;have H:=H1;clear H1;replace H:=Option.bind_eq_some_iff.mp H;obtain ⟨qR,KR,H⟩:=H;replace H:(if qR=true then ((dX.f k l3).bind fun nE=>(some nE)) else (some false))=some r:=H;have A9:=aC.mk KR;clear KR;by_cases c10:qR=true
   ·subst c10;have H1:((dX.f k l3).bind fun nE=>(some nE))=some r:=by rw [if_pos rfl] at H;exact H
    clear H;have H:=H1;clear H1;replace H:=Option.bind_eq_some_iff.mp H;obtain ⟨nE,ab1,H⟩:=H;replace H:(some nE)=some r:=H;have ayX:=aC.mk ab1;clear ab1;obtain rfl:=Option.some.inj H;go_enter Tryd.func22,Tryd.ntmps22
    go_wp2_with (first|((with_reducible refine eI (f:=12) rfl ?_);refine eJ (some 10) rfl rfl Tryd.func12 (by kernel_rfl) rfl #[.slice A0 l0.length c0] rfl (by (try simp only [List.map_toArray,List.map_cons,List.map_nil]);first|done|rfl|(simp only [List.length_drop,List.length_take];rfl)) ?_;(with_reducible refine (dX.calls k _ _ l0 true _ ?cJ ?cK A5.out).mono ?_);(case cJ=>repeat (first|exact fG.out|(with_reducible refine Kd.eE ?_ _)|(with_reducible refine Kd.eG ?_ _)|(with_reducible refine Kd.eF ?_)));(case cK=>exact lO.out);rintro e CD ⟨rfl,hb⟩;refine ⟨_,rfl,?_⟩;have aM:=aC.mk (bQ (by repeat (first|(with_reducible first|exact HB.out|apply aI|apply aN|apply aJ)|exact HB.out)) hb);clear HB;have HB:=aM;clear aM;(try clear hb);(try clear bR);(try clear hk);(try clear hi))|(go_at_call 12;(with_reducible refine (dX.calls k _ _ l1 true _ ?cJ ?cK A7.out).mono ?_);(case cJ=>repeat (first|exact (Kd.cN nX.out HB.out)|(with_reducible refine Kd.eE ?_ _)|(with_reducible refine Kd.eG ?_ _)|(with_reducible refine Kd.eF ?_)));(case cK=>exact pZ.out);rintro e EV ⟨rfl,hb⟩;have aM:=aC.mk (bQ (by repeat (first|(with_reducible first|exact HB.out|apply aI|apply aN|apply aJ)|exact HB.out)) hb);clear HB;have HB:=aM;clear aM;(try clear hb);(try clear bR);(try clear hk);(try clear hi))|(go_at_call 12;(with_reducible refine (dX.calls k _ _ l2 true _ ?cJ ?cK A9.out).mono ?_);(case cJ=>repeat (first|exact (Kd.cN nF.out HB.out)|(with_reducible refine Kd.eE ?_ _)|(with_reducible refine Kd.eG ?_ _)|(with_reducible refine Kd.eF ?_)));(case cK=>exact uJ.out);rintro e pL ⟨rfl,hb⟩;have aM:=aC.mk (bQ (by repeat (first|(with_reducible first|exact HB.out|apply aI|apply aN|apply aJ)|exact HB.out)) hb);clear HB;have HB:=aM;clear aM;(try clear hb);(try clear bR);(try clear hk);(try clear hi))|(go_at_call 12;(with_reducible refine (dX.calls k _ _ l3 nE _ ?cJ ?cK ayX.out).mono ?_);(case cJ=>repeat (first|exact (Kd.cN N5.out HB.out)|(with_reducible refine Kd.eE ?_ _)|(with_reducible refine Kd.eG ?_ _)|(with_reducible refine Kd.eF ?_)));(case cK=>exact DV.out);rintro e sH ⟨rfl,hb⟩;have aM:=aC.mk (bQ (by repeat (first|(with_reducible first|exact HB.out|apply aI|apply aN|apply aJ)|exact HB.out)) hb);clear HB;have HB:=aM;clear aM;(try clear hb);(try clear bR);(try clear hk);(try clear hi)))
    go_ret
    exact ⟨by first|rfl|(simp [fJ,fK]<;>rfl)|(simp [*,fJ,fK]<;>rfl),by repeat (first|(with_reducible first|exact HB.out|apply aI|apply aN|apply aJ)|exact HB.out)⟩
   ·replace c10:=Bool.eq_false_iff.mpr c10;subst c10;have H1:(some false)=some r:=by rw [if_neg (show ¬ (false=true) by decide)] at H;exact H
    clear H;have H:=H1;clear H1;obtain rfl:=Option.some.inj H;go_enter Tryd.func22,Tryd.ntmps22
    go_wp2_with (first|((with_reducible refine eI (f:=12) rfl ?_);refine eJ (some 10) rfl rfl Tryd.func12 (by kernel_rfl) rfl #[.slice A0 l0.length c0] rfl (by (try simp only [List.map_toArray,List.map_cons,List.map_nil]);first|done|rfl|(simp only [List.length_drop,List.length_take];rfl)) ?_;(with_reducible refine (dX.calls k _ _ l0 true _ ?cJ ?cK A5.out).mono ?_);(case cJ=>repeat (first|exact fG.out|(with_reducible refine Kd.eE ?_ _)|(with_reducible refine Kd.eG ?_ _)|(with_reducible refine Kd.eF ?_)));(case cK=>exact lO.out);rintro e DL ⟨rfl,hb⟩;refine ⟨_,rfl,?_⟩;have aM:=aC.mk (bQ (by repeat (first|(with_reducible first|exact HB.out|apply aI|apply aN|apply aJ)|exact HB.out)) hb);clear HB;have HB:=aM;clear aM;(try clear hb);(try clear bR);(try clear hk);(try clear hi))|(go_at_call 12;(with_reducible refine (dX.calls k _ _ l1 true _ ?cJ ?cK A7.out).mono ?_);(case cJ=>repeat (first|exact (Kd.cN nX.out HB.out)|(with_reducible refine Kd.eE ?_ _)|(with_reducible refine Kd.eG ?_ _)|(with_reducible refine Kd.eF ?_)));(case cK=>exact pZ.out);rintro e Q3 ⟨rfl,hb⟩;have aM:=aC.mk (bQ (by repeat (first|(with_reducible first|exact HB.out|apply aI|apply aN|apply aJ)|exact HB.out)) hb);clear HB;have HB:=aM;clear aM;(try clear hb);(try clear bR);(try clear hk);(try clear hi))|(go_at_call 12;(with_reducible refine (dX.calls k _ _ l2 false _ ?cJ ?cK A9.out).mono ?_);(case cJ=>repeat (first|exact (Kd.cN nF.out HB.out)|(with_reducible refine Kd.eE ?_ _)|(with_reducible refine Kd.eG ?_ _)|(with_reducible refine Kd.eF ?_)));(case cK=>exact uJ.out);rintro e NH ⟨rfl,hb⟩;have aM:=aC.mk (bQ (by repeat (first|(with_reducible first|exact HB.out|apply aI|apply aN|apply aJ)|exact HB.out)) hb);clear HB;have HB:=aM;clear aM;(try clear hb);(try clear bR);(try clear hk);(try clear hi)))
    go_ret
    exact ⟨by first|rfl|(simp [fJ,fK]<;>rfl)|(simp [*,fJ,fK]<;>rfl),by repeat (first|(with_reducible first|exact HB.out|apply aI|apply aN|apply aJ)|exact HB.out)⟩
  ·replace c8:=Bool.eq_false_iff.mpr c8;subst c8;have H1:(some false)=some r:=by rw [if_neg (show ¬ (false=true) by decide)] at H;exact H
   clear H;have H:=H1;clear H1;obtain rfl:=Option.some.inj H;go_enter Tryd.func22,Tryd.ntmps22
   go_wp2_with (first|((with_reducible refine eI (f:=12) rfl ?_);refine eJ (some 10) rfl rfl Tryd.func12 (by kernel_rfl) rfl #[.slice A0 l0.length c0] rfl (by (try simp only [List.map_toArray,List.map_cons,List.map_nil]);first|done|rfl|(simp only [List.length_drop,List.length_take];rfl)) ?_;(with_reducible refine (dX.calls k _ _ l0 true _ ?cJ ?cK A5.out).mono ?_);(case cJ=>repeat (first|exact fG.out|(with_reducible refine Kd.eE ?_ _)|(with_reducible refine Kd.eG ?_ _)|(with_reducible refine Kd.eF ?_)));(case cK=>exact lO.out);rintro e J7 ⟨rfl,hb⟩;refine ⟨_,rfl,?_⟩;have aM:=aC.mk (bQ (by repeat (first|(with_reducible first|exact HB.out|apply aI|apply aN|apply aJ)|exact HB.out)) hb);clear HB;have HB:=aM;clear aM;(try clear hb);(try clear bR);(try clear hk);(try clear hi))|(go_at_call 12;(with_reducible refine (dX.calls k _ _ l1 false _ ?cJ ?cK A7.out).mono ?_);(case cJ=>repeat (first|exact (Kd.cN nX.out HB.out)|(with_reducible refine Kd.eE ?_ _)|(with_reducible refine Kd.eG ?_ _)|(with_reducible refine Kd.eF ?_)));(case cK=>exact pZ.out);rintro e awQ ⟨rfl,hb⟩;have aM:=aC.mk (bQ (by repeat (first|(with_reducible first|exact HB.out|apply aI|apply aN|apply aJ)|exact HB.out)) hb);clear HB;have HB:=aM;clear aM;(try clear hb);(try clear bR);(try clear hk);(try clear hi)))
   go_ret
   exact ⟨by first|rfl|(simp [fJ,fK]<;>rfl)|(simp [*,fJ,fK]<;>rfl),by repeat (first|(with_reducible first|exact HB.out|apply aI|apply aN|apply aJ)|exact HB.out)⟩
 ·replace c6:=Bool.eq_false_iff.mpr c6;subst c6;have H1:(some false)=some r:=by rw [if_neg (show ¬ (false=true) by decide)] at H;exact H
  clear H;have H:=H1;clear H1;obtain rfl:=Option.some.inj H;go_enter Tryd.func22,Tryd.ntmps22
  go_wp2_with (first|((with_reducible refine eI (f:=12) rfl ?_);refine eJ (some 10) rfl rfl Tryd.func12 (by kernel_rfl) rfl #[.slice A0 l0.length c0] rfl (by (try simp only [List.map_toArray,List.map_cons,List.map_nil]);first|done|rfl|(simp only [List.length_drop,List.length_take];rfl)) ?_;(with_reducible refine (dX.calls k _ _ l0 false _ ?cJ ?cK A5.out).mono ?_);(case cJ=>repeat (first|exact fG.out|(with_reducible refine Kd.eE ?_ _)|(with_reducible refine Kd.eG ?_ _)|(with_reducible refine Kd.eF ?_)));(case cK=>exact lO.out);rintro e N6 ⟨rfl,hb⟩;refine ⟨_,rfl,?_⟩;have aM:=aC.mk (bQ (by repeat (first|(with_reducible first|exact HB.out|apply aI|apply aN|apply aJ)|exact HB.out)) hb);clear HB;have HB:=aM;clear aM;(try clear hb);(try clear bR);(try clear hk);(try clear hi)))
  go_ret
  exact ⟨by first|rfl|(simp [fJ,fK]<;>rfl)|(simp [*,fJ,fK]<;>rfl),by repeat (first|(with_reducible first|exact HB.out|apply aI|apply aN|apply aJ)|exact HB.out)⟩
def IC.f (a0:Int):Option (ByteArray):=if a0=0 then (some (⟨#[111,107]⟩:ByteArray)) else (if a0=1 then (some (⟨#[97,114,103]⟩:ByteArray)) else (if a0=2 then (some (⟨#[108,111,110,103]⟩:ByteArray)) else (if a0=3 then (some (⟨#[100,101,97,100]⟩:ByteArray)) else (if a0=4 then (some (⟨#[102,117,108,108]⟩:ByteArray)) else (if a0=5 then (some (⟨#[110,111,110,101]⟩:ByteArray)) else (if a0=6 then (some (⟨#[116,111,107,101,110]⟩:ByteArray)) else (some (⟨#[101,114,114,111,114]⟩:ByteArray))))))))
set_option maxHeartbeats 8000000 in
set_option maxRecDepth 100000 in
theorem IC.calls (a0:Int) (r:ByteArray) (w:World) (h:IC.f a0=some r):
  Calls Tryd.prog 56 #[.int .i64 a0] w fun e w'=>e= .returned (.string r)∧Drawn0 w w':=by
 have H:(if a0=0 then (some (⟨#[111,107]⟩:ByteArray)) else (if a0=1 then (some (⟨#[97,114,103]⟩:ByteArray)) else (if a0=2 then (some (⟨#[108,111,110,103]⟩:ByteArray)) else (if a0=3 then (some (⟨#[100,101,97,100]⟩:ByteArray)) else (if a0=4 then (some (⟨#[102,117,108,108]⟩:ByteArray)) else (if a0=5 then (some (⟨#[110,111,110,101]⟩:ByteArray)) else (if a0=6 then (some (⟨#[116,111,107,101,110]⟩:ByteArray)) else (some (⟨#[101,114,114,111,114]⟩:ByteArray)))))))))=some r:=h;clear h;by_cases c2:a0=0
 ·rw [if_pos c2] at H;have lM:(a0==0)=true:=beq_iff_eq.mpr c2;have wX:(a0 !=0)=false:=bne_eq_false_iff_eq.mpr c2;clear c2;obtain rfl:=Option.some.inj H;go_enter Tryd.func56,Tryd.ntmps56
  go_wp2
  go_ret
  exact ⟨by first|rfl|(simp;done)|(simp [*];done),by repeat (first|exact Drawn0.refl _|apply Drawn0.step)⟩
 ·rw [if_neg c2] at H;have lM:(a0==0)=false:=beq_eq_false_iff_ne.mpr c2;have wX:(a0 !=0)=true:=bne_iff_ne.mpr c2;by_cases c3:a0=1
  ·rw [if_pos c3] at H;have j8:(a0==1)=true:=beq_iff_eq.mpr c3;have wZ:(a0 !=1)=false:=bne_eq_false_iff_eq.mpr c3;clear c3;obtain rfl:=Option.some.inj H;go_enter Tryd.func56,Tryd.ntmps56
   go_wp2
   go_ret
   exact ⟨by first|rfl|(simp;done)|(simp [*];done),by repeat (first|exact Drawn0.refl _|apply Drawn0.step)⟩
  ·rw [if_neg c3] at H;have j8:(a0==1)=false:=beq_eq_false_iff_ne.mpr c3;have wZ:(a0 !=1)=true:=bne_iff_ne.mpr c3;by_cases c4:a0=2
   ·rw [if_pos c4] at H;have nN:(a0==2)=true:=beq_iff_eq.mpr c4;have yC:(a0 !=2)=false:=bne_eq_false_iff_eq.mpr c4;clear c4;obtain rfl:=Option.some.inj H;go_enter Tryd.func56,Tryd.ntmps56
    go_wp2
    go_ret
    exact ⟨by first|rfl|(simp;done)|(simp [*];done),by repeat (first|exact Drawn0.refl _|apply Drawn0.step)⟩
   ·rw [if_neg c4] at H;have nN:(a0==2)=false:=beq_eq_false_iff_ne.mpr c4;have yC:(a0 !=2)=true:=bne_iff_ne.mpr c4;by_cases c5:a0=3
    ·rw [if_pos c5] at H;have mI:(a0==3)=true:=beq_iff_eq.mpr c5;have EL:(a0 !=3)=false:=bne_eq_false_iff_eq.mpr c5;clear c5;obtain rfl:=Option.some.inj H;go_enter Tryd.func56,Tryd.ntmps56
     go_wp2
     go_ret
     exact ⟨by first|rfl|(simp;done)|(simp [*];done),by repeat (first|exact Drawn0.refl _|apply Drawn0.step)⟩
    ·rw [if_neg c5] at H;have mI:(a0==3)=false:=beq_eq_false_iff_ne.mpr c5;have EL:(a0 !=3)=true:=bne_iff_ne.mpr c5;by_cases c6:a0=4
     ·rw [if_pos c6] at H;have sC:(a0==4)=true:=beq_iff_eq.mpr c6;have sM:(a0 !=4)=false:=bne_eq_false_iff_eq.mpr c6;clear c6;obtain rfl:=Option.some.inj H;go_enter Tryd.func56,Tryd.ntmps56
      go_wp2
      go_ret
      exact ⟨by first|rfl|(simp;done)|(simp [*];done),by repeat (first|exact Drawn0.refl _|apply Drawn0.step)⟩
     ·rw [if_neg c6] at H;have sC:(a0==4)=false:=beq_eq_false_iff_ne.mpr c6;have sM:(a0 !=4)=true:=bne_iff_ne.mpr c6;by_cases c7:a0=5
      ·rw [if_pos c7] at H;have rX:(a0==5)=true:=beq_iff_eq.mpr c7;have rT:(a0 !=5)=false:=bne_eq_false_iff_eq.mpr c7;clear c7;obtain rfl:=Option.some.inj H;go_enter Tryd.func56,Tryd.ntmps56
       go_wp2
       go_ret
       exact ⟨by first|rfl|(simp;done)|(simp [*];done),by repeat (first|exact Drawn0.refl _|apply Drawn0.step)⟩
      ·rw [if_neg c7] at H;have rX:(a0==5)=false:=beq_eq_false_iff_ne.mpr c7;have rT:(a0 !=5)=true:=bne_iff_ne.mpr c7;by_cases c8:a0=6
       ·rw [if_pos c8] at H;have rC:(a0==6)=true:=beq_iff_eq.mpr c8;have yI:(a0 !=6)=false:=bne_eq_false_iff_eq.mpr c8;clear c8;obtain rfl:=Option.some.inj H;go_enter Tryd.func56,Tryd.ntmps56
        go_wp2
        go_ret
        exact ⟨by first|rfl|(simp;done)|(simp [*];done),by repeat (first|exact Drawn0.refl _|apply Drawn0.step)⟩
       ·rw [if_neg c8] at H;have rC:(a0==6)=false:=beq_eq_false_iff_ne.mpr c8;have yI:(a0 !=6)=true:=bne_iff_ne.mpr c8;obtain rfl:=Option.some.inj H;go_enter Tryd.func56,Tryd.ntmps56
        go_wp2
        go_ret
        exact ⟨by first|rfl|(simp;done)|(simp [*];done),by repeat (first|exact Drawn0.refl _|apply Drawn0.step)⟩
def FV.f (a0:Int):Option (ByteArray):=if a0=7 then (some (⟨#[102,111,114,109]⟩:ByteArray)) else (if a0=8 then (some (⟨#[100,101,101,112]⟩:ByteArray)) else (if a0=9 then (some (⟨#[116,119,105,99,101]⟩:ByteArray)) else (if a0=10 then (some (⟨#[110,97,109,101]⟩:ByteArray)) else (if a0=11 then (some (⟨#[109,97,105,110]⟩:ByteArray)) else (if a0=12 then (some (⟨#[112,114,111,116,111]⟩:ByteArray)) else (some (⟨#[101,114,114,111,114]⟩:ByteArray)))))))
set_option maxHeartbeats 8000000 in
set_option maxRecDepth 100000 in
theorem FV.calls (a0:Int) (r:ByteArray) (w:World) (h:FV.f a0=some r):
  Calls Tryd.prog 57 #[.int .i64 a0] w fun e w'=>e= .returned (.string r)∧Drawn0 w w':=by
 have H:(if a0=7 then (some (⟨#[102,111,114,109]⟩:ByteArray)) else (if a0=8 then (some (⟨#[100,101,101,112]⟩:ByteArray)) else (if a0=9 then (some (⟨#[116,119,105,99,101]⟩:ByteArray)) else (if a0=10 then (some (⟨#[110,97,109,101]⟩:ByteArray)) else (if a0=11 then (some (⟨#[109,97,105,110]⟩:ByteArray)) else (if a0=12 then (some (⟨#[112,114,111,116,111]⟩:ByteArray)) else (some (⟨#[101,114,114,111,114]⟩:ByteArray))))))))=some r:=h;clear h;by_cases c2:a0=7
 ·rw [if_pos c2] at H;have lM:(a0==7)=true:=beq_iff_eq.mpr c2;have wX:(a0 !=7)=false:=bne_eq_false_iff_eq.mpr c2;clear c2;obtain rfl:=Option.some.inj H;go_enter Tryd.func57,Tryd.ntmps57
  go_wp2
  go_ret
  exact ⟨by first|rfl|(simp;done)|(simp [*];done),by repeat (first|exact Drawn0.refl _|apply Drawn0.step)⟩
 ·rw [if_neg c2] at H;have lM:(a0==7)=false:=beq_eq_false_iff_ne.mpr c2;have wX:(a0 !=7)=true:=bne_iff_ne.mpr c2;by_cases c3:a0=8
  ·rw [if_pos c3] at H;have j8:(a0==8)=true:=beq_iff_eq.mpr c3;have wZ:(a0 !=8)=false:=bne_eq_false_iff_eq.mpr c3;clear c3;obtain rfl:=Option.some.inj H;go_enter Tryd.func57,Tryd.ntmps57
   go_wp2
   go_ret
   exact ⟨by first|rfl|(simp;done)|(simp [*];done),by repeat (first|exact Drawn0.refl _|apply Drawn0.step)⟩
  ·rw [if_neg c3] at H;have j8:(a0==8)=false:=beq_eq_false_iff_ne.mpr c3;have wZ:(a0 !=8)=true:=bne_iff_ne.mpr c3;by_cases c4:a0=9
   ·rw [if_pos c4] at H;have nN:(a0==9)=true:=beq_iff_eq.mpr c4;have yC:(a0 !=9)=false:=bne_eq_false_iff_eq.mpr c4;clear c4;obtain rfl:=Option.some.inj H;go_enter Tryd.func57,Tryd.ntmps57
    go_wp2
    go_ret
    exact ⟨by first|rfl|(simp;done)|(simp [*];done),by repeat (first|exact Drawn0.refl _|apply Drawn0.step)⟩
   ·rw [if_neg c4] at H;have nN:(a0==9)=false:=beq_eq_false_iff_ne.mpr c4;have yC:(a0 !=9)=true:=bne_iff_ne.mpr c4;by_cases c5:a0=10
    ·rw [if_pos c5] at H;have mI:(a0==10)=true:=beq_iff_eq.mpr c5;have EL:(a0 !=10)=false:=bne_eq_false_iff_eq.mpr c5;clear c5;obtain rfl:=Option.some.inj H;go_enter Tryd.func57,Tryd.ntmps57
     go_wp2
     go_ret
     exact ⟨by first|rfl|(simp;done)|(simp [*];done),by repeat (first|exact Drawn0.refl _|apply Drawn0.step)⟩
    ·rw [if_neg c5] at H;have mI:(a0==10)=false:=beq_eq_false_iff_ne.mpr c5;have EL:(a0 !=10)=true:=bne_iff_ne.mpr c5;by_cases c6:a0=11
     ·rw [if_pos c6] at H;have sC:(a0==11)=true:=beq_iff_eq.mpr c6;have sM:(a0 !=11)=false:=bne_eq_false_iff_eq.mpr c6;clear c6;obtain rfl:=Option.some.inj H;go_enter Tryd.func57,Tryd.ntmps57
      go_wp2
      go_ret
      exact ⟨by first|rfl|(simp;done)|(simp [*];done),by repeat (first|exact Drawn0.refl _|apply Drawn0.step)⟩
     ·rw [if_neg c6] at H;have sC:(a0==11)=false:=beq_eq_false_iff_ne.mpr c6;have sM:(a0 !=11)=true:=bne_iff_ne.mpr c6;by_cases c7:a0=12
      ·rw [if_pos c7] at H;have rX:(a0==12)=true:=beq_iff_eq.mpr c7;have rT:(a0 !=12)=false:=bne_eq_false_iff_eq.mpr c7;clear c7;obtain rfl:=Option.some.inj H;go_enter Tryd.func57,Tryd.ntmps57
       go_wp2
       go_ret
       exact ⟨by first|rfl|(simp;done)|(simp [*];done),by repeat (first|exact Drawn0.refl _|apply Drawn0.step)⟩
      ·rw [if_neg c7] at H;have rX:(a0==12)=false:=beq_eq_false_iff_ne.mpr c7;have rT:(a0 !=12)=true:=bne_iff_ne.mpr c7;obtain rfl:=Option.some.inj H;go_enter Tryd.func57,Tryd.ntmps57
       go_wp2
       go_ret
       exact ⟨by first|rfl|(simp;done)|(simp [*];done),by repeat (first|exact Drawn0.refl _|apply Drawn0.step)⟩
def ab4.f (a0:Int):Option (ByteArray):=if a0≤6 then ((IC.f a0).bind fun EX=>(some EX)) else ((FV.f a0).bind fun FC=>(some FC))
set_option maxHeartbeats 8000000 in
set_option maxRecDepth 100000 in
theorem ab4.calls (a0:Int) (r:ByteArray) (w:World) (h:ab4.f a0=some r):
  Calls Tryd.prog 27 #[.int .i64 a0] w fun e w'=>e= .returned (.string r)∧Drawn0 w w':=by
 have H:(if a0≤6 then ((IC.f a0).bind fun EX=>(some EX)) else ((FV.f a0).bind fun FC=>(some FC)))=some r:=h;clear h;by_cases c2:a0≤6
 ·rw [if_pos c2] at H;have lM:decide (a0≤6)=true:=decide_eq_true c2;clear c2;replace H:=Option.bind_eq_some_iff.mp H;obtain ⟨EX,zR,H⟩:=H;replace H:(some EX)=some r:=H;have A3:=aC.mk zR;clear zR;obtain rfl:=Option.some.inj H;go_enter Tryd.func27,Tryd.ntmps27
  go_wp2_with (first|((with_reducible refine eI (f:=56) rfl ?_);refine eJ (some 6) rfl rfl Tryd.func56 (by kernel_rfl) rfl #[.int .i64 a0] rfl (by (try simp only [List.map_toArray,List.map_cons,List.map_nil]);first|done|rfl|(simp only [List.length_drop,List.length_take];rfl)) ?_;(with_reducible refine (IC.calls a0 EX _ A3.out).mono ?_);rintro e w' ⟨rfl,⟨nd,rfl⟩⟩;refine ⟨_,rfl,?_⟩))
  go_ret
  exact ⟨by first|rfl|(simp;done)|(simp [*];done),by repeat (first|exact Drawn0.refl _|apply Drawn0.step)⟩
 ·rw [if_neg c2] at H;have lM:decide (a0≤6)=false:=decide_eq_false c2;clear c2;replace H:=Option.bind_eq_some_iff.mp H;obtain ⟨FC,tV,H⟩:=H;replace H:(some FC)=some r:=H;have A4:=aC.mk tV;clear tV;obtain rfl:=Option.some.inj H;go_enter Tryd.func27,Tryd.ntmps27
  go_wp2_with (first|((with_reducible refine eI (f:=57) rfl ?_);refine eJ (some 8) rfl rfl Tryd.func57 (by kernel_rfl) rfl #[.int .i64 a0] rfl (by (try simp only [List.map_toArray,List.map_cons,List.map_nil]);first|done|rfl|(simp only [List.length_drop,List.length_take];rfl)) ?_;(with_reducible refine (FV.calls a0 FC _ A4.out).mono ?_);rintro e w' ⟨rfl,⟨nd,rfl⟩⟩;refine ⟨_,rfl,?_⟩))
  go_ret
  exact ⟨by first|rfl|(simp;done)|(simp [*];done),by repeat (first|exact Drawn0.refl _|apply Drawn0.step)⟩
end Go.Proofs.YtkmafndljelopaaDoor.Q
