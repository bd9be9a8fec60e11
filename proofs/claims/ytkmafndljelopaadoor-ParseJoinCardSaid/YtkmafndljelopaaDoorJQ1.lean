/- A part of this claim. -/
import Derived.Test.YtkmafndljelopaaDoorJQ0
namespace Go.Proofs.YtkmafndljelopaaDoor.Q
open Go.RowKit Go.Proofs.YtkmafndljelopaaDoorW.PrintWords Go.Proofs.YtkmafndljelopaaDoorW.PrintLast Go.Proofs.YtkmafndljelopaaDoorW.PrintMore
attribute [local go_sem] tS tT uD sZ tQ tC uX sO
set_option linter.unusedVariables false
set_option linter.unusedSimpArgs false
def rO.f (a0:Int):Option (Bool):=if a0=32 then (some true) else (if a0=9 then (some true) else (some (a0==10)))
set_option maxHeartbeats 8000000 in
set_option maxRecDepth 100000 in
theorem rO.calls (a0:Int) (r:Bool) (w:World) (h:rO.f a0=some r):
  Calls Tryd.prog 58 #[.int .i32 a0] w fun e w'=>e= .returned (.bool r)∧Drawn0 w w':=by
 have H:(if a0=32 then (some true) else (if a0=9 then (some true) else (some (a0==10))))=some r:=h;clear h;by_cases c2:a0=32
 ·rw [if_pos c2] at H;have lM:(a0==32)=true:=beq_iff_eq.mpr c2;have wX:(a0 !=32)=false:=bne_eq_false_iff_eq.mpr c2;clear c2;obtain rfl:=Option.some.inj H;go_enter Tryd.func58,Tryd.ntmps58
  go_wp2
  go_ret
  exact ⟨by first|rfl|(simp;done)|(simp [*];done),by repeat (first|exact Drawn0.refl _|apply Drawn0.step)⟩
 ·rw [if_neg c2] at H;have lM:(a0==32)=false:=beq_eq_false_iff_ne.mpr c2;have wX:(a0 !=32)=true:=bne_iff_ne.mpr c2;by_cases c3:a0=9
  ·rw [if_pos c3] at H;have j8:(a0==9)=true:=beq_iff_eq.mpr c3;have wZ:(a0 !=9)=false:=bne_eq_false_iff_eq.mpr c3;clear c3;obtain rfl:=Option.some.inj H;go_enter Tryd.func58,Tryd.ntmps58
   go_wp2
   go_ret
   exact ⟨by first|rfl|(simp;done)|(simp [*];done),by repeat (first|exact Drawn0.refl _|apply Drawn0.step)⟩
  ·rw [if_neg c3] at H;have j8:(a0==9)=false:=beq_eq_false_iff_ne.mpr c3;have wZ:(a0 !=9)=true:=bne_iff_ne.mpr c3;obtain rfl:=Option.some.inj H;go_enter Tryd.func58,Tryd.ntmps58
   go_wp2
   go_ret
   exact ⟨by first|rfl|(simp;done)|(simp [*];done),by repeat (first|exact Drawn0.refl _|apply Drawn0.step)⟩
def lY.f (a0:Int):Option (Bool):=if a0≥97 then (some (decide (a0≤122))) else (some false)
set_option maxHeartbeats 8000000 in
set_option maxRecDepth 100000 in
theorem lY.calls (a0:Int) (r:Bool) (w:World) (h:lY.f a0=some r):
  Calls Tryd.prog 59 #[.int .i32 a0] w fun e w'=>e= .returned (.bool r)∧Drawn0 w w':=by
 have H:(if a0≥97 then (some (decide (a0≤122))) else (some false))=some r:=h;clear h;by_cases c2:a0≥97
 ·rw [if_pos c2] at H;have lM:decide (97≤a0)=true:=decide_eq_true c2;clear c2;obtain rfl:=Option.some.inj H;go_enter Tryd.func59,Tryd.ntmps59
  go_wp2
  go_ret
  exact ⟨by first|rfl|(simp;done)|(simp [*];done),by repeat (first|exact Drawn0.refl _|apply Drawn0.step)⟩
 ·rw [if_neg c2] at H;have lM:decide (97≤a0)=false:=decide_eq_false c2;clear c2;obtain rfl:=Option.some.inj H;go_enter Tryd.func59,Tryd.ntmps59
  go_wp2
  go_ret
  exact ⟨by first|rfl|(simp;done)|(simp [*];done),by repeat (first|exact Drawn0.refl _|apply Drawn0.step)⟩
def zQ.f (a0:Int):Option (Bool):=(lY.f a0).bind fun t101=>(if t101=true then (some true) else (if a0≥48 then (some (decide (a0≤57))) else (some false)))
set_option maxHeartbeats 8000000 in
set_option maxRecDepth 100000 in
theorem zQ.calls (a0:Int) (r:Bool) (w:World) (h:zQ.f a0=some r):
  Calls Tryd.prog 80 #[.int .i32 a0] w fun e w'=>e= .returned (.bool r)∧Drawn0 w w':=by
 have H:((lY.f a0).bind fun t101=>(if t101=true then (some true) else (if a0≥48 then (some (decide (a0≤57))) else (some false))))=some r:=h;clear h;replace H:=Option.bind_eq_some_iff.mp H;obtain ⟨t101,lQ,H⟩:=H;replace H:(if t101=true then (some true) else (if a0≥48 then (some (decide (a0≤57))) else (some false)))=some r:=H;have A2:=aC.mk lQ;clear lQ;by_cases c3:t101=true
 ·subst c3;have H1:(some true)=some r:=by rw [if_pos rfl] at H;exact H
  clear H;have H:=H1;clear H1;obtain rfl:=Option.some.inj H;go_enter Tryd.func80,Tryd.ntmps80
  go_wp2_with (first|((with_reducible refine eI (f:=59) rfl ?_);refine eJ (some 4) rfl rfl Tryd.func59 (by kernel_rfl) rfl #[.int .i32 a0] rfl (by (try simp only [List.map_toArray,List.map_cons,List.map_nil]);first|done|rfl|(simp only [List.length_drop,List.length_take];rfl)) ?_;(with_reducible refine (lY.calls a0 true _ A2.out).mono ?_);rintro e w' ⟨rfl,⟨nd,rfl⟩⟩;refine ⟨_,rfl,?_⟩))
  go_ret
  exact ⟨by first|rfl|(simp;done)|(simp [*];done),by repeat (first|exact Drawn0.refl _|apply Drawn0.step)⟩
 ·replace c3:=Bool.eq_false_iff.mpr c3;subst c3;have H1:(if a0≥48 then (some (decide (a0≤57))) else (some false))=some r:=by rw [if_neg (show ¬ (false=true) by decide)] at H;exact H
  clear H;have H:=H1;clear H1;by_cases c4:a0≥48
  ·rw [if_pos c4] at H;have nN:decide (48≤a0)=true:=decide_eq_true c4;clear c4;obtain rfl:=Option.some.inj H;go_enter Tryd.func80,Tryd.ntmps80
   go_wp2_with (first|((with_reducible refine eI (f:=59) rfl ?_);refine eJ (some 4) rfl rfl Tryd.func59 (by kernel_rfl) rfl #[.int .i32 a0] rfl (by (try simp only [List.map_toArray,List.map_cons,List.map_nil]);first|done|rfl|(simp only [List.length_drop,List.length_take];rfl)) ?_;(with_reducible refine (lY.calls a0 false _ A2.out).mono ?_);rintro e w' ⟨rfl,⟨nd,rfl⟩⟩;refine ⟨_,rfl,?_⟩))
   go_ret
   exact ⟨by first|rfl|(simp;done)|(simp [*];done),by repeat (first|exact Drawn0.refl _|apply Drawn0.step)⟩
  ·rw [if_neg c4] at H;have nN:decide (48≤a0)=false:=decide_eq_false c4;clear c4;obtain rfl:=Option.some.inj H;go_enter Tryd.func80,Tryd.ntmps80
   go_wp2_with (first|((with_reducible refine eI (f:=59) rfl ?_);refine eJ (some 4) rfl rfl Tryd.func59 (by kernel_rfl) rfl #[.int .i32 a0] rfl (by (try simp only [List.map_toArray,List.map_cons,List.map_nil]);first|done|rfl|(simp only [List.length_drop,List.length_take];rfl)) ?_;(with_reducible refine (lY.calls a0 false _ A2.out).mono ?_);rintro e w' ⟨rfl,⟨nd,rfl⟩⟩;refine ⟨_,rfl,?_⟩))
   go_ret
   exact ⟨by first|rfl|(simp;done)|(simp [*];done),by repeat (first|exact Drawn0.refl _|apply Drawn0.step)⟩
def IsS69 (w0 W:World) (g:Nat) (f0:List (S108)) (f1:Int):Prop:= ∃ A0 c0,W.heap[g]? =some (.cells #[.slice A0 f0.length c0,.int .i64 f1] 69 (0,0))∧w0.heap.size≤g∧Kd.C k108 w0 A0 f0.length f0
theorem IsS69.grown {w0 W:World} {g:Nat} {f0:List (S108)} {f1:Int} {W1:World} {row:Option Nat} (h:IsS69 w0 W g f0 f1) (hw:W.grownBy W1 row) (hne:some g≠row):IsS69 w0 W1 g f0 f1:=by
 obtain ⟨A0,c0,hb,hg,eX⟩:=h;exact ⟨A0,c0,iY hb hw hne,hg,eX⟩
theorem IsS69.fresh {w0 W:World} {g:Nat} {f0:List (S108)} {f1:Int} (h:IsS69 w0 W g f0 f1): ∀ k,W.heap.size≤k→k≠g:=by
 obtain ⟨A0,c0,hb,hg,eX⟩:=h;exact Kd.freshB hb
theorem IsS69.kept {w0 W:World} {g:Nat} {f0:List (S108)} {f1:Int} {W1:World} {S:Nat→Prop} (h:IsS69 w0 W g f0 f1) (hk:Kept W W1 S) (hne: ¬ S g):IsS69 w0 W1 g f0 f1:=by
 obtain ⟨A0,c0,hb,hg,eX⟩:=h;exact ⟨A0,c0,azW hb hk hne,hg,eX⟩
theorem IsS69.below {w0 W:World} {g:Nat} {f0:List (S108)} {f1:Int} {W1:World} (h:IsS69 w0 W g f0 f1) (hw:Below W.heap.size W W1):IsS69 w0 W1 g f0 f1:=h.grown (ah6 hw none) (by simp)
theorem IsS69.alloc {w0 W:World} {g:Nat} {f0:List (S108)} {f1:Int} (h:IsS69 w0 W g f0 f1) (o:Obj):IsS69 w0 (W.alloc o) g f0 f1:=h.below (aI (Below.refl _ _) o)
theorem IsS69.drewN {w0 W:World} {g:Nat} {f0:List (S108)} {f1:Int} (h:IsS69 w0 W g f0 f1) (m:Nat):IsS69 w0 (W.drewN m) g f0 f1:=h
theorem IsS69.drew {w0 W:World} {g:Nat} {f0:List (S108)} {f1:Int} (h:IsS69 w0 W g f0 f1):IsS69 w0 W.drew g f0 f1:=h
theorem IsS69.at_ {w0 W:World} {g:Nat} {f0:List (S108)} {f1:Int} {w':World} {m:Nat} (hq:W.drewN m=w') (h:IsS69 w0 W g f0 f1):IsS69 w0 w' g f0 f1:=by subst hq;exact IsS69.drewN h m
theorem IsS69.apart {w0 W:World} {g:Nat} {f0:List (S108)} {f1:Int} {α:Type} {d:Kd α} {e:Nat} {base:Nat} {ok:Nat→Prop} {v:Value} {xs:List α} (h:IsS69 w0 W g f0 f1) (ho:d.R e W base ok v xs) (ht: ∀ q,q∈e::d.E→q≠69):d.R e W base (fun k=>ok k∧k≠g) v xs:=by
 obtain ⟨A0,c0,hb,hg,eX⟩:=h;exact Kd.eU ho hb ht
theorem IsS69.lt {w0 W:World} {g:Nat} {f0:List (S108)} {f1:Int} (h:IsS69 w0 W g f0 f1):g<W.heap.size:=by
 obtain ⟨A0,c0,hb,hg,eX⟩:=h;exact iR hb
theorem IsS69.ge {w0 W:World} {g:Nat} {f0:List (S108)} {f1:Int} (h:IsS69 w0 W g f0 f1):w0.heap.size≤g:=by
 obtain ⟨A0,c0,hb,hg,eX⟩:=h;exact hg
theorem IsS69.far {w0 W:World} {g:Nat} {f0:List (S108)} {f1:Int} {p:Addr} (h:IsS69 w0 W g f0 f1) (hne:g≠p.block) (u:Value):IsS69 w0 (W.setCell p u) g f0 f1:=by
 obtain ⟨A0,c0,hb,hg,eX⟩:=h;exact ⟨A0,c0,dT hb hne u,hg,eX⟩
theorem aj5 {W:World} {g:Nat} {A0:Option Addr} {c0:Nat} {f0:List (S108)} {f1:Int} (h:W.heap[g]? =some (.cells #[.slice A0 f0.length c0,.int .i64 f1] 69 (0,0))):W.cell? ⟨g,0,none⟩=some (.slice A0 f0.length c0):=(aD h 0).trans rfl
theorem abZ {W:World} {g:Nat} {A0:Option Addr} {c0:Nat} {f0:List (S108)} {f1:Int} (h:W.heap[g]? =some (.cells #[.slice A0 f0.length c0,.int .i64 f1] 69 (0,0))):W.cell? ⟨g,1,none⟩=some (.int .i64 f1):=(aD h 1).trans rfl
theorem IsS69.zE {w0 W:World} {g:Nat} {f0:List (S108)} {f1:Int} (h:IsS69 w0 W g f0 f1) (x:Int):IsS69 w0 (W.setCell ⟨g,1,none⟩ (.int .i64 x)) g f0 x:=by
 obtain ⟨A0,c0,hb,hg,eX⟩:=h;exact ⟨A0,c0,by simpa using X9 hb 1 (.int .i64 x),hg,eX⟩
def abM.f (iG:List (S108)) (oO:Int):Option (Int×Int×ByteArray×Int):=if (iG.length:Int)=0 then (some (0,oO,(⟨#[]⟩:ByteArray),oO)) else (if 0<(iG.length:Int) then (some ((nB iG 0).f0,(nB iG 0).f1,(nB iG 0).f2,oO)) else (none))
set_option maxHeartbeats 8000000 in
set_option maxRecDepth 100000 in
theorem abM.calls (g:Nat) (iG:List (S108)) (oO:Int) (r1:Int) (r2:Int) (r3:ByteArray) (r4:Int) (w0 w:World) (hI:IsS69 w0 w g iG oO) (hB:Below w0.heap.size w0 w) (h:abM.f iG oO=some (r1,r2,r3,r4)):
  Calls Tryd.prog 61 #[.pointer (some ⟨g,0,none⟩)] w fun e w'=>e= .returned (.agg #[.int .i64 r1,.int .i64 r2,.string r3])∧IsS69 w0 w' g iG r4∧Below w0.heap.size w0 w'∧KeepBut w w' g none:=by
 have aK0:=Tryd.underlying108;have jR:=aC.mk hI;have HK:=aC.mk (KeepBut.refl w g none);have HL:=aC.mk hB.size;clear hI;have acA:=aC.mk hB.size;have HB:=aC.mk hB;clear hB;have H:(if (iG.length:Int)=0 then (some (0,oO,(⟨#[]⟩:ByteArray),oO)) else (if 0<(iG.length:Int) then (some ((nB iG 0).f0,(nB iG 0).f1,(nB iG 0).f2,oO)) else (none)))=some (r1,r2,r3,r4):=h;clear h;by_cases c2:(iG.length:Int)=0
 ·rw [if_pos c2] at H;have lM:((iG.length:Int)==0)=true:=beq_iff_eq.mpr c2;have wX:((iG.length:Int) !=0)=false:=bne_eq_false_iff_eq.mpr c2;clear c2;simp only [Option.some.injEq,Prod.mk.injEq] at H;obtain ⟨rfl,rfl,rfl,rfl⟩:=H;go_enter Tryd.func61,Tryd.ntmps61
  go_wp2_with (first|((with_reducible refine iJ (N:=2) rfl ?_);refine lF ?hg (N:=2) ?hd (cs:=#[.int .i64 0,.int .i64 0,.string (⟨#[]⟩:ByteArray)]) (t:=108) ?hr ?_;(case hd=>rfl);(case hg=>rfl);(case hr=>first|(go_simp;done)|(go_simp;rfl));intro mQ hg w3 hbox hb;have aM:=aC.mk (IsS69.below (by repeat (first|(with_reducible first|exact jR.out|apply IsS69.alloc|apply IsS69.drewN|apply IsS69.drew|apply IsS69.zE)|exact jR.out)) hb);have aU:=aC.mk (KeepBut.trans (by repeat (first|(with_reducible first|exact HK.out|apply KeepBut.set_|apply yR|apply yE|apply zK)|exact HK.out)) (KeepBut.fS hb g none) (.inl rfl));have aX:=aC.mk (bQ (by repeat (first|(with_reducible first|exact HB.out|apply aI|apply aN|apply aJ|refine a8 ?_ (IsS69.ge jR.out))|exact HB.out)) hb);have bD:=aC.mk (hbox);have bY:=aC.mk ((by rw [hg];exact (OM (w:=w) (g:=g) (row:=none) (by repeat (first|(with_reducible first|exact HK.out|apply KeepBut.set_|apply yR|apply yE|apply zK)|exact HK.out))):w.heap.size≤mQ));have cM:=aC.mk ((Nat.le_trans acA.out (by rw [hg];exact (OM (w:=w) (g:=g) (row:=none) (by repeat (first|(with_reducible first|exact HK.out|apply KeepBut.set_|apply yR|apply yE|apply zK)|exact HK.out))):w.heap.size≤mQ):w0.heap.size≤mQ));have dH:=aC.mk ((by rw [hg];exact Nat.ne_of_lt (IsS69.lt (show IsS69 w0 _ g iG oO from by repeat (first|(with_reducible first|exact jR.out|apply IsS69.alloc|apply IsS69.drewN|apply IsS69.drew|apply IsS69.zE)|exact jR.out))):g≠mQ));have gG:=aC.mk ((by rw [hg];exact Nat.ne_of_gt (IsS69.lt (show IsS69 w0 _ g iG oO from by repeat (first|(with_reducible first|exact jR.out|apply IsS69.alloc|apply IsS69.drewN|apply IsS69.drew|apply IsS69.zE)|exact jR.out))):mQ≠g));clear jR;clear HK;clear HB;have jR:=aM;have HK:=aU;have HB:=aX;have pC:=bD;have TV:=bY;have ZA:=cM;have GS:=dH;have UZ:=gG;clear aM aU aX bD bY cM dH gG;clear hb hbox hg;obtain ⟨aJ8,aKN,NY,as3,aDT⟩:=jR.out;have anA:=aj5 NY;have awW:=abZ NY;have apV:=aT NY 1;clear NY as3;have arI:=UZ.out;have aA6:=GS.out;have auO:w3.cell? ⟨mQ,0,none⟩=some (.int .i64 0):=(aD pC.out 0).trans rfl;have ap4:w3.cell? ⟨mQ,1,none⟩=some (.int .i64 0):=(aD pC.out 1).trans rfl;have aIC:w3.cell? ⟨mQ,2,none⟩=some (.string (⟨#[]⟩:ByteArray)):=(aD pC.out 2).trans rfl;have arG:=aT pC.out 0;have alR:=aT pC.out 1;have aPE:=aT pC.out 2))
  refine bodyPost_ret (results_cell_row rfl _ _ mQ 108 #[.int .i64 0,.int .i64 oO,.string (⟨#[]⟩:ByteArray)] (0,0) _ rfl (by (with_reducible repeat (first|refine aW ?_ _|refine aV ?_|refine aQ ?_ _));refine bX (cs:=#[.int .i64 0,.int .i64 oO,.string (⟨#[]⟩:ByteArray)]) ?_ 2 _ rfl;(with_reducible repeat (first|refine aW ?_ _|refine aV ?_|refine aQ ?_ _));refine bX (cs:=#[.int .i64 0,.int .i64 0,.string (⟨#[]⟩:ByteArray)]) ?_ 1 _ rfl;(with_reducible repeat (first|refine aW ?_ _|refine aV ?_|refine aQ ?_ _));refine bX (cs:=#[.int .i64 0,.int .i64 0,.string (⟨#[]⟩:ByteArray)]) ?_ 0 _ rfl;(with_reducible repeat (first|refine aW ?_ _|refine aV ?_|refine aQ ?_ _));exact pC.out) Tryd.underlying108 rfl (by kernel_rfl)) rfl ?_
  exact ⟨by first|rfl|(simp [fJ,fK]<;>rfl)|(simp [*,fJ,fK]<;>rfl),by repeat (first|(with_reducible first|exact jR.out|apply IsS69.alloc|apply IsS69.drewN|apply IsS69.drew|apply IsS69.zE|refine IsS69.far ?_ GS.out _)|exact jR.out),by repeat (first|(with_reducible first|exact HB.out|apply aI|apply aN|apply aJ|refine a8 ?_ (IsS69.ge jR.out)|refine a8 ?_ ZA.out)|exact HB.out),by repeat (first|(with_reducible first|exact HK.out|apply KeepBut.set_|apply yR|apply yE|apply zK|refine BT ?_ TV.out _)|exact HK.out)⟩
 ·rw [if_neg c2] at H;have lM:((iG.length:Int)==0)=false:=beq_eq_false_iff_ne.mpr c2;have wX:((iG.length:Int) !=0)=true:=bne_iff_ne.mpr c2;have aKQ: ¬ (iG= []):=fun h_=>c2 (by rw [h_];rfl)
  by_cases c7:0<(iG.length:Int)
  ·rw [if_pos c7] at H;have rX:decide (0<(iG.length:Int))=true:=decide_eq_true c7;have rT:decide (0<iG.length)=true:=decide_eq_true (by omega);clear c7;simp only [Option.some.injEq,Prod.mk.injEq] at H;obtain ⟨rfl,rfl,rfl,rfl⟩:=H;go_enter Tryd.func61,Tryd.ntmps61
   go_wp2_with (first|((with_reducible refine iJ (N:=2) rfl ?_);refine lF ?hg (N:=2) ?hd (cs:=#[.int .i64 0,.int .i64 0,.string (⟨#[]⟩:ByteArray)]) (t:=108) ?hr ?_;(case hd=>rfl);(case hg=>rfl);(case hr=>first|(go_simp;done)|(go_simp;rfl));intro mQ hg w8 hbox hb;have aM:=aC.mk (IsS69.below (by repeat (first|(with_reducible first|exact jR.out|apply IsS69.alloc|apply IsS69.drewN|apply IsS69.drew|apply IsS69.zE)|exact jR.out)) hb);have aU:=aC.mk (KeepBut.trans (by repeat (first|(with_reducible first|exact HK.out|apply KeepBut.set_|apply yR|apply yE|apply zK)|exact HK.out)) (KeepBut.fS hb g none) (.inl rfl));have aX:=aC.mk (bQ (by repeat (first|(with_reducible first|exact HB.out|apply aI|apply aN|apply aJ|refine a8 ?_ (IsS69.ge jR.out))|exact HB.out)) hb);have bD:=aC.mk (hbox);have bY:=aC.mk ((by rw [hg];exact (OM (w:=w) (g:=g) (row:=none) (by repeat (first|(with_reducible first|exact HK.out|apply KeepBut.set_|apply yR|apply yE|apply zK)|exact HK.out))):w.heap.size≤mQ));have cM:=aC.mk ((Nat.le_trans acA.out (by rw [hg];exact (OM (w:=w) (g:=g) (row:=none) (by repeat (first|(with_reducible first|exact HK.out|apply KeepBut.set_|apply yR|apply yE|apply zK)|exact HK.out))):w.heap.size≤mQ):w0.heap.size≤mQ));have dH:=aC.mk ((by rw [hg];exact Nat.ne_of_lt (IsS69.lt (show IsS69 w0 _ g iG oO from by repeat (first|(with_reducible first|exact jR.out|apply IsS69.alloc|apply IsS69.drewN|apply IsS69.drew|apply IsS69.zE)|exact jR.out))):g≠mQ));have gG:=aC.mk ((by rw [hg];exact Nat.ne_of_gt (IsS69.lt (show IsS69 w0 _ g iG oO from by repeat (first|(with_reducible first|exact jR.out|apply IsS69.alloc|apply IsS69.drewN|apply IsS69.drew|apply IsS69.zE)|exact jR.out))):mQ≠g));clear jR;clear HK;clear HB;have jR:=aM;have HK:=aU;have HB:=aX;have pC:=bD;have TV:=bY;have ZA:=cM;have GS:=dH;have UZ:=gG;clear aM aU aX bD bY cM dH gG;clear hb hbox hg;obtain ⟨aOL,aG8,P3,as1,aA8⟩:=jR.out;have SC:=aj5 P3;have Y6:=abZ P3;have RG:=aT P3 1;clear P3 as1;have S6:0≤(0:Int):=(by omega);have R7:0<(iG.length:Int):=of_decide_eq_true (by assumption);obtain ⟨aLT,aAT,GB,FW,J3⟩:=ZH aA8 0 S6 R7;cases aAT;have aM6:(0<iG.length)=True:=eq_true (by omega);(try rw [show ((0:Int)).toNat=0 from rfl] at GB);(try rw [show 0 * 3=0 from rfl] at GB);(try rw [Addr.add_zero'] at GB);(try rw [show ((0:Int)).toNat=0 from rfl] at FW);(try rw [show 0 * 3=0 from rfl] at FW);(try rw [Addr.add_zero'] at FW);(try rw [show ((0:Int)).toNat=0 from rfl] at J3);(try rw [show 0 * 3=0 from rfl] at J3);(try rw [Addr.add_zero'] at J3);replace GB:=D1 HB.out GB;replace FW:=D1 HB.out FW;replace J3:=D1 HB.out J3;replace S6:=eq_true S6;replace R7:=eq_true R7;have aBX:=UZ.out;have aN5:=GS.out;have aG2:w8.cell? ⟨mQ,0,none⟩=some (.int .i64 0):=(aD pC.out 0).trans rfl;have aNJ:w8.cell? ⟨mQ,1,none⟩=some (.int .i64 0):=(aD pC.out 1).trans rfl;have aCK:w8.cell? ⟨mQ,2,none⟩=some (.string (⟨#[]⟩:ByteArray)):=(aD pC.out 2).trans rfl;have aBR:=aT pC.out 0;have aCS:=aT pC.out 1;have aDU:=aT pC.out 2))
   refine bodyPost_ret (results_cell_row rfl _ _ mQ 108 #[.int .i64 ((nB iG 0).f0),.int .i64 ((nB iG 0).f1),.string ((nB iG 0).f2)] (0,0) _ rfl (by (with_reducible repeat (first|refine aW ?_ _|refine aV ?_|refine aQ ?_ _));refine bX (cs:=#[.int .i64 ((nB iG 0).f0),.int .i64 ((nB iG 0).f1),.string (⟨#[]⟩:ByteArray)]) ?_ 2 _ rfl;(with_reducible repeat (first|refine aW ?_ _|refine aV ?_|refine aQ ?_ _));refine bX (cs:=#[.int .i64 ((nB iG 0).f0),.int .i64 0,.string (⟨#[]⟩:ByteArray)]) ?_ 1 _ rfl;(with_reducible repeat (first|refine aW ?_ _|refine aV ?_|refine aQ ?_ _));refine bX (cs:=#[.int .i64 0,.int .i64 0,.string (⟨#[]⟩:ByteArray)]) ?_ 0 _ rfl;(with_reducible repeat (first|refine aW ?_ _|refine aV ?_|refine aQ ?_ _));exact pC.out) Tryd.underlying108 rfl (by kernel_rfl)) rfl ?_
   exact ⟨by first|rfl|(simp [fJ,fK]<;>rfl)|(simp [*,fJ,fK]<;>rfl),by repeat (first|(with_reducible first|exact jR.out|apply IsS69.alloc|apply IsS69.drewN|apply IsS69.drew|apply IsS69.zE|refine IsS69.far ?_ GS.out _)|exact jR.out),by repeat (first|(with_reducible first|exact HB.out|apply aI|apply aN|apply aJ|refine a8 ?_ (IsS69.ge jR.out)|refine a8 ?_ ZA.out)|exact HB.out),by repeat (first|(with_reducible first|exact HK.out|apply KeepBut.set_|apply yR|apply yE|apply zK|refine BT ?_ TV.out _)|exact HK.out)⟩
  ·rw [if_neg c7] at H;exact absurd H (by simp)
def jS.l0:Nat→List ByteArray→ByteArray→Int→Int→Option (Int)
 |0,_,_,_,_=>none
 |k+1,x0,x1,x7,x8=>if x8<x7 then (if 0≤x8 then (if x8<(x0.length:Int) then (if x1.toList=(rdOf ByteArray.empty x0 x8).toList then (some x8) else (jS.l0 k x0 x1 x7 (wrap64 (x8+1)))) else (none)) else (none)) else (some (-1))
def jS.f (k:Nat) (l0:List ByteArray) (a1:ByteArray):Option (Int):=jS.l0 k l0 a1 (l0.length:Int) 0
theorem jS.jT: ∀ k,(∀ y0 y1 y2 y3,LeO (jS.l0 k y0 y1 y2 y3) (jS.l0 (k+1) y0 y1 y2 y3))
 |0=>fun _ _ _ _ r h=>by simp [jS.l0] at h
 |k+1=>by
  have dU:=jS.jT k
  ·intro y0 y1 y2 y3;unfold jS.l0
   repeat' first
   |(with_reducible exact dU _ _ _ _)
   |(with_reducible exact LeO.refl _)
   |(with_reducible exact LeO.none _)
   |(with_reducible refine LeO.ite ?_ ?_)
   |(with_reducible refine LeO.bind ?_ (fun _=>?_))
   |exact dU _ _ _ _
   |exact LeO.none _
   |refine LeO.ite ?_ ?_
   |refine LeO.bind ?_ (fun _=>?_)
theorem jS.mono: ∀ a0 a1 k,LeO (jS.f k a0 a1) (jS.f (k+1) a0 a1):=by
 intro a0 a1 k;have dU:=jS.jT k;unfold jS.f
 repeat' first
   |(with_reducible exact dU _ _ _ _)
   |(with_reducible exact LeO.refl _)
   |(with_reducible exact LeO.none _)
   |(with_reducible refine LeO.ite ?_ ?_)
   |(with_reducible refine LeO.bind ?_ (fun _=>?_))
   |exact dU _ _ _ _
   |exact LeO.none _
   |refine LeO.ite ?_ ?_
   |refine LeO.bind ?_ (fun _=>?_)
set_option maxHeartbeats 8000000 in
set_option maxRecDepth 100000 in
theorem jS.calls (k:Nat) (A0:Option Addr) (c0:Nat) (l0:List ByteArray) (a1:ByteArray) (r:Int) (w:World) (eX:Kd.C Kd.string w A0 l0.length l0) (fC:l0.length≤c0) (h:jS.f k l0 a1=some r):
  Calls Tryd.prog 95 #[.slice A0 l0.length c0,.string a1] w fun e w'=>e= .returned (.int .i64 r)∧Drawn0 w w':=by
 have fG:=aC.mk eX;have lO:=aC.mk fC;clear eX fC;have H:(jS.l0 k l0 a1 (l0.length:Int) 0)=some r:=h;clear h;have H':=aC.mk H;clear H;go_enter Tryd.func95,Tryd.ntmps95
 go_wp2
 go_loopg [8] k (fun kq v8 w'=>∃ (kZ:Int),v8= .int .i64 kZ∧aC (jS.l0 kq l0 a1 (l0.length:Int) kZ=some r)∧aC (kq≤k)∧Drawn0 w w')
 case atStart=>exact ⟨(0),(by first|rfl|(simp;done)|(simp [*];done)),H',⟨Nat.le_refl _⟩,by repeat (first|exact Drawn0.refl _|apply Drawn0.step)⟩
 case round=>
  clear H';try clear p2
  obtain ⟨kZ,rfl,HA,dI,⟨m1,rfl⟩⟩:=hrel;cases gk with
  |zero=>exact absurd HA.out (by simp [jS.l0])
  |succ k1=>
   have H:=HA.out;clear HA;simp only [jS.l0] at H;by_cases c3:kZ<(l0.length:Int)
   ·rw [if_pos c3] at H;have j8:decide (kZ<(l0.length:Int))=true:=decide_eq_true c3;clear c3;by_cases c4:0≤kZ
    ·rw [if_pos c4] at H;have nN:decide (0≤kZ)=true:=decide_eq_true c4;clear c4;by_cases c5:kZ<(l0.length:Int)
     ·rw [if_pos c5] at H;have mI:decide (kZ<(l0.length:Int))=true:=decide_eq_true c5;clear c5;by_cases c6:a1.toList=(rdOf ByteArray.empty l0 kZ).toList
      ·rw [if_pos c6] at H;have sC:(a1.toList==(rdOf ByteArray.empty l0 kZ).toList)=true:=beq_iff_eq.mpr c6;have sM:(a1.toList !=(rdOf ByteArray.empty l0 kZ).toList)=false:=bne_eq_false_iff_eq.mpr c6;clear c6;obtain rfl:=Option.some.inj H;have AP:0≤(kZ:Int):=of_decide_eq_true (by assumption);have vT:kZ<(l0.length:Int):=of_decide_eq_true (by assumption);obtain ⟨aqG,SY,an9⟩:=Kd.CX fG.out kZ AP vT;cases SY
       replace AP:=eq_true AP;replace vT:=eq_true vT;go_wp2
       go_ret
       exact ⟨by first|rfl|(simp;done)|(simp [*];done),by repeat (first|exact Drawn0.refl _|apply Drawn0.step)⟩
      ·rw [if_neg c6] at H;have sC:(a1.toList==(rdOf ByteArray.empty l0 kZ).toList)=false:=beq_eq_false_iff_ne.mpr c6;have sM:(a1.toList !=(rdOf ByteArray.empty l0 kZ).toList)=true:=bne_iff_ne.mpr c6;have H':=aC.mk H;clear H;have AP:0≤(kZ:Int):=of_decide_eq_true (by assumption);have vT:kZ<(l0.length:Int):=of_decide_eq_true (by assumption);obtain ⟨aqG,SY,an9⟩:=Kd.CX fG.out kZ AP vT;cases SY
       replace AP:=eq_true AP;replace vT:=eq_true vT;go_wp2
       go_roundg k1
       case measure=>have:=dI.out;omega
       case rel=>exact ⟨(wrap64 (kZ+1)),(by first|rfl|(simp;done)|(simp [*];done)),H',⟨by have:=dI.out;omega⟩,by repeat (first|exact Drawn0.refl _|apply Drawn0.step)⟩
     ·rw [if_neg c5] at H;exact absurd H (by simp)
    ·rw [if_neg c4] at H;exact absurd H (by simp)
   ·rw [if_neg c3] at H;have j8:decide (kZ<(l0.length:Int))=false:=decide_eq_false c3;clear c3;obtain rfl:=Option.some.inj H;go_wp2
    go_ret
    exact ⟨by first|rfl|(simp;done)|(simp [*];done),by repeat (first|exact Drawn0.refl _|apply Drawn0.step)⟩
def i6.f (a0:Int) (a1:Int):Option (Int):=if a1=0 then (none) else (if (Int.tmod a0 a1)<0 then (some (wrap64 ((Int.tmod a0 a1)+a1))) else (some (Int.tmod a0 a1)))
set_option maxHeartbeats 8000000 in
set_option maxRecDepth 100000 in
theorem i6.calls (a0:Int) (a1:Int) (r:Int) (w:World) (h:i6.f a0 a1=some r):
  Calls Tryd.prog 15 #[.int .i64 a0,.int .i64 a1] w fun e w'=>e= .returned (.int .i64 r)∧Drawn0 w w':=by
 have H:(if a1=0 then (none) else (if (Int.tmod a0 a1)<0 then (some (wrap64 ((Int.tmod a0 a1)+a1))) else (some (Int.tmod a0 a1))))=some r:=h;clear h;by_cases c3:a1=0
 ·rw [if_pos c3] at H;exact absurd H (by simp)
 ·rw [if_neg c3] at H;have j8:(a1==0)=false:=beq_eq_false_iff_ne.mpr c3;have wZ:(a1 !=0)=true:=bne_iff_ne.mpr c3;by_cases c4:(Int.tmod a0 a1)<0
  ·rw [if_pos c4] at H;have nN:decide ((Int.tmod a0 a1)<0)=true:=decide_eq_true c4;clear c4;obtain rfl:=Option.some.inj H;go_enter Tryd.func15,Tryd.ntmps15
   go_wp2
   go_ret
   exact ⟨by first|rfl|(simp;done)|(simp [*];done),by repeat (first|exact Drawn0.refl _|apply Drawn0.step)⟩
  ·rw [if_neg c4] at H;have nN:decide ((Int.tmod a0 a1)<0)=false:=decide_eq_false c4;clear c4;obtain rfl:=Option.some.inj H;go_enter Tryd.func15,Tryd.ntmps15
   go_wp2
   go_ret
   exact ⟨by first|rfl|(simp;done)|(simp [*];done),by repeat (first|exact Drawn0.refl _|apply Drawn0.step)⟩
end Go.Proofs.YtkmafndljelopaaDoor.Q
