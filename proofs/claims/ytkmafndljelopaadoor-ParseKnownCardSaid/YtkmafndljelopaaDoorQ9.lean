-- written by wip/xprint.py (over the kit's print.py) out of the translation. Not trusted: Lean checks it.
import Derived.Test.YtkmafndljelopaaDoorQ0
import Derived.Test.YtkmafndljelopaaDoorQ2
namespace Go.Proofs.YtkmafndljelopaaDoor.Q
open Go.RowKit Go.Proofs.YtkmafndljelopaaDoorW.PrintWords Go.Proofs.YtkmafndljelopaaDoorW.PrintLast Go.Proofs.YtkmafndljelopaaDoorW.PrintMore
attribute [local go_sem] max2_int min2_int max_two min_two max_three min_three max_four min_four   -- for this text's walks alone
set_option linter.unusedVariables false
set_option linter.unusedSimpArgs false

/-! ### deadboltlaw6_All: function 22 -/
def deadboltlaw6_All.f (k : Nat) (l0 : List (S105)) (l1 : List (S105)) (l2 : List (S105)) (l3 : List (S105)) : Option (Bool) := (deadboltlaw6_Few.f k l0).bind fun t576 => (if t576 = true then ((deadboltlaw6_Few.f k l1).bind fun t577 => (if t577 = true then ((deadboltlaw6_Few.f k l2).bind fun t578 => (if t578 = true then ((deadboltlaw6_Few.f k l3).bind fun t579 => (some t579)) else (some false))) else (some false))) else (some false))
theorem deadboltlaw6_All.mono : ∀ a0 a1 a2 a3 k, LeO (deadboltlaw6_All.f k a0 a1 a2 a3) (deadboltlaw6_All.f (k + 1) a0 a1 a2 a3) := by
 intro a0 a1 a2 a3 k;unfold deadboltlaw6_All.f
 repeat' first
   | (with_reducible exact deadboltlaw6_Few.mono _ _)
   | (with_reducible exact LeO.refl _)
   | (with_reducible exact LeO.none _)
   | (with_reducible refine LeO.ite ?_ ?_)
   | (with_reducible refine LeO.bind ?_ (fun _=>?_))
   | exact deadboltlaw6_Few.mono _ _
   | exact LeO.none _
   | refine LeO.ite ?_ ?_
   | refine LeO.bind ?_ (fun _=>?_)
set_option maxHeartbeats 8000000 in
set_option maxRecDepth 100000 in
theorem deadboltlaw6_All.calls (k : Nat) (A0 : Option Addr) (c0 : Nat) (l0 : List (S105)) (A1 : Option Addr) (c1 : Nat) (l1 : List (S105)) (A2 : Option Addr) (c2 : Nat) (l2 : List (S105)) (A3 : Option Addr) (c3 : Nat) (l3 : List (S105)) (r : Bool) (w : World) (hr0 : Kd.C k105 w A0 l0.length l0) (hc0 : l0.length ≤ c0) (hr1 : Kd.C k105 w A1 l1.length l1) (hc1 : l1.length ≤ c1) (hr2 : Kd.C k105 w A2 l2.length l2) (hc2 : l2.length ≤ c2) (hr3 : Kd.C k105 w A3 l3.length l3) (hc3 : l3.length ≤ c3) (h : deadboltlaw6_All.f k l0 l1 l2 l3 = some r) :
  Calls Tryd.prog 22 #[.slice A0 l0.length c0,.slice A1 l1.length c1,.slice A2 l2.length c2,.slice A3 l3.length c3] w fun e w'=>e = .returned (.bool r) ∧ Below w.heap.size w w':=by
 have HR0:=Aside0.mk hr0;have HC0:=Aside0.mk hc0;clear hr0 hc0;have HR1:=Aside0.mk hr1;have HC1:=Aside0.mk hc1;clear hr1 hc1;have HR2:=Aside0.mk hr2;have HC2:=Aside0.mk hc2;clear hr2 hc2;have HR3:=Aside0.mk hr3;have HC3:=Aside0.mk hc3;clear hr3 hc3;have HB:=Aside0.mk (Below.refl w.heap.size w);have H : ((deadboltlaw6_Few.f k l0).bind fun t576=>(if t576 = true then ((deadboltlaw6_Few.f k l1).bind fun t577=>(if t577 = true then ((deadboltlaw6_Few.f k l2).bind fun t578=>(if t578 = true then ((deadboltlaw6_Few.f k l3).bind fun t579=>(some t579)) else (some false))) else (some false))) else (some false))) = some r:=h;clear h;replace H:=Option.bind_eq_some_iff.mp H;obtain ⟨t576,A50,H⟩:=H;replace H : (if t576 = true then ((deadboltlaw6_Few.f k l1).bind fun t577=>(if t577 = true then ((deadboltlaw6_Few.f k l2).bind fun t578=>(if t578 = true then ((deadboltlaw6_Few.f k l3).bind fun t579=>(some t579)) else (some false))) else (some false))) else (some false)) = some r:=H;have A5:=Aside0.mk A50;clear A50;by_cases c6 : t576 = true
 ·subst c6;have H1 : ((deadboltlaw6_Few.f k l1).bind fun t577=>(if t577 = true then ((deadboltlaw6_Few.f k l2).bind fun t578=>(if t578 = true then ((deadboltlaw6_Few.f k l3).bind fun t579=>(some t579)) else (some false))) else (some false))) = some r:=by rw [if_pos rfl] at H; exact H
  clear H;have H:=H1;clear H1;replace H:=Option.bind_eq_some_iff.mp H;obtain ⟨t577,A70,H⟩:=H;replace H : (if t577 = true then ((deadboltlaw6_Few.f k l2).bind fun t578=>(if t578 = true then ((deadboltlaw6_Few.f k l3).bind fun t579=>(some t579)) else (some false))) else (some false)) = some r:=H;have A7:=Aside0.mk A70;clear A70;by_cases c8 : t577 = true
  ·subst c8;have H1 : ((deadboltlaw6_Few.f k l2).bind fun t578=>(if t578 = true then ((deadboltlaw6_Few.f k l3).bind fun t579=>(some t579)) else (some false))) = some r:=by rw [if_pos rfl] at H; exact H
   clear H;have H:=H1;clear H1;replace H:=Option.bind_eq_some_iff.mp H;obtain ⟨t578,A90,H⟩:=H;replace H : (if t578 = true then ((deadboltlaw6_Few.f k l3).bind fun t579=>(some t579)) else (some false)) = some r:=H;have A9:=Aside0.mk A90;clear A90;by_cases c10 : t578 = true
   ·subst c10;have H1 : ((deadboltlaw6_Few.f k l3).bind fun t579=>(some t579)) = some r:=by rw [if_pos rfl] at H; exact H
    clear H;have H:=H1;clear H1;replace H:=Option.bind_eq_some_iff.mp H;obtain ⟨t579,A110,H⟩:=H;replace H : (some t579) = some r:=H;have A11:=Aside0.mk A110;clear A110;obtain rfl:=Option.some.inj H;go_enter Tryd.func22,Tryd.ntmps22
    go_wp2_with (first | ((with_reducible refine gate_callee (f:=12) rfl ?_); refine goesL_ (some 10) rfl rfl Tryd.func12 (by kernel_rfl) rfl #[.slice A0 l0.length c0] rfl (by (try simp only [List.map_toArray,List.map_cons,List.map_nil]); first | done | rfl | (simp only [List.length_drop,List.length_take]; rfl)) ?_; (with_reducible refine (deadboltlaw6_Few.calls k _ _ l0 true _ ?side1 ?side2 A5.out).mono ?_); (case side1=>repeat (first | exact HR0.out | (with_reducible refine Kd.C_alloc ?_ _) | (with_reducible refine Kd.C_drewN ?_ _) | (with_reducible refine Kd.C_drew ?_))); (case side2=>exact HC0.out); rintro e w12 ⟨rfl,hb⟩; refine ⟨_,rfl,?_⟩; have n0_:=Aside0.mk (below_step (by repeat (first | (with_reducible first | exact HB.out | apply below_alloc | apply pw_below_drewN | apply below_drew1) | exact HB.out)) hb); clear HB; have HB:=n0_; clear n0_; (try clear hb); (try clear hb2); (try clear hk); (try clear hi)) | (go_at_call 12; (with_reducible refine (deadboltlaw6_Few.calls k _ _ l1 true _ ?side1 ?side2 A7.out).mono ?_); (case side1=>repeat (first | exact (Kd.C_below HR1.out HB.out) | (with_reducible refine Kd.C_alloc ?_ _) | (with_reducible refine Kd.C_drewN ?_ _) | (with_reducible refine Kd.C_drew ?_))); (case side2=>exact HC1.out); rintro e w13 ⟨rfl,hb⟩; have n0_:=Aside0.mk (below_step (by repeat (first | (with_reducible first | exact HB.out | apply below_alloc | apply pw_below_drewN | apply below_drew1) | exact HB.out)) hb); clear HB; have HB:=n0_; clear n0_; (try clear hb); (try clear hb2); (try clear hk); (try clear hi)) | (go_at_call 12; (with_reducible refine (deadboltlaw6_Few.calls k _ _ l2 true _ ?side1 ?side2 A9.out).mono ?_); (case side1=>repeat (first | exact (Kd.C_below HR2.out HB.out) | (with_reducible refine Kd.C_alloc ?_ _) | (with_reducible refine Kd.C_drewN ?_ _) | (with_reducible refine Kd.C_drew ?_))); (case side2=>exact HC2.out); rintro e w14 ⟨rfl,hb⟩; have n0_:=Aside0.mk (below_step (by repeat (first | (with_reducible first | exact HB.out | apply below_alloc | apply pw_below_drewN | apply below_drew1) | exact HB.out)) hb); clear HB; have HB:=n0_; clear n0_; (try clear hb); (try clear hb2); (try clear hk); (try clear hi)) | (go_at_call 12; (with_reducible refine (deadboltlaw6_Few.calls k _ _ l3 t579 _ ?side1 ?side2 A11.out).mono ?_); (case side1=>repeat (first | exact (Kd.C_below HR3.out HB.out) | (with_reducible refine Kd.C_alloc ?_ _) | (with_reducible refine Kd.C_drewN ?_ _) | (with_reducible refine Kd.C_drew ?_))); (case side2=>exact HC3.out); rintro e w15 ⟨rfl,hb⟩; have n0_:=Aside0.mk (below_step (by repeat (first | (with_reducible first | exact HB.out | apply below_alloc | apply pw_below_drewN | apply below_drew1) | exact HB.out)) hb); clear HB; have HB:=n0_; clear n0_; (try clear hb); (try clear hb2); (try clear hk); (try clear hi)))
    go_ret
    exact ⟨by first | rfl | (simp [errW_none,errW_some]<;>rfl) | (simp [*,errW_none,errW_some]<;>rfl),by repeat (first | (with_reducible first | exact HB.out | apply below_alloc | apply pw_below_drewN | apply below_drew1) | exact HB.out)⟩
   ·replace c10:=Bool.eq_false_iff.mpr c10;subst c10;have H1 : (some false) = some r:=by rw [if_neg (show ¬ (false = true) by decide)] at H; exact H
    clear H;have H:=H1;clear H1;obtain rfl:=Option.some.inj H;go_enter Tryd.func22,Tryd.ntmps22
    go_wp2_with (first | ((with_reducible refine gate_callee (f:=12) rfl ?_); refine goesL_ (some 10) rfl rfl Tryd.func12 (by kernel_rfl) rfl #[.slice A0 l0.length c0] rfl (by (try simp only [List.map_toArray,List.map_cons,List.map_nil]); first | done | rfl | (simp only [List.length_drop,List.length_take]; rfl)) ?_; (with_reducible refine (deadboltlaw6_Few.calls k _ _ l0 true _ ?side1 ?side2 A5.out).mono ?_); (case side1=>repeat (first | exact HR0.out | (with_reducible refine Kd.C_alloc ?_ _) | (with_reducible refine Kd.C_drewN ?_ _) | (with_reducible refine Kd.C_drew ?_))); (case side2=>exact HC0.out); rintro e w16 ⟨rfl,hb⟩; refine ⟨_,rfl,?_⟩; have n0_:=Aside0.mk (below_step (by repeat (first | (with_reducible first | exact HB.out | apply below_alloc | apply pw_below_drewN | apply below_drew1) | exact HB.out)) hb); clear HB; have HB:=n0_; clear n0_; (try clear hb); (try clear hb2); (try clear hk); (try clear hi)) | (go_at_call 12; (with_reducible refine (deadboltlaw6_Few.calls k _ _ l1 true _ ?side1 ?side2 A7.out).mono ?_); (case side1=>repeat (first | exact (Kd.C_below HR1.out HB.out) | (with_reducible refine Kd.C_alloc ?_ _) | (with_reducible refine Kd.C_drewN ?_ _) | (with_reducible refine Kd.C_drew ?_))); (case side2=>exact HC1.out); rintro e w17 ⟨rfl,hb⟩; have n0_:=Aside0.mk (below_step (by repeat (first | (with_reducible first | exact HB.out | apply below_alloc | apply pw_below_drewN | apply below_drew1) | exact HB.out)) hb); clear HB; have HB:=n0_; clear n0_; (try clear hb); (try clear hb2); (try clear hk); (try clear hi)) | (go_at_call 12; (with_reducible refine (deadboltlaw6_Few.calls k _ _ l2 false _ ?side1 ?side2 A9.out).mono ?_); (case side1=>repeat (first | exact (Kd.C_below HR2.out HB.out) | (with_reducible refine Kd.C_alloc ?_ _) | (with_reducible refine Kd.C_drewN ?_ _) | (with_reducible refine Kd.C_drew ?_))); (case side2=>exact HC2.out); rintro e w18 ⟨rfl,hb⟩; have n0_:=Aside0.mk (below_step (by repeat (first | (with_reducible first | exact HB.out | apply below_alloc | apply pw_below_drewN | apply below_drew1) | exact HB.out)) hb); clear HB; have HB:=n0_; clear n0_; (try clear hb); (try clear hb2); (try clear hk); (try clear hi)))
    go_ret
    exact ⟨by first | rfl | (simp [errW_none,errW_some]<;>rfl) | (simp [*,errW_none,errW_some]<;>rfl),by repeat (first | (with_reducible first | exact HB.out | apply below_alloc | apply pw_below_drewN | apply below_drew1) | exact HB.out)⟩
  ·replace c8:=Bool.eq_false_iff.mpr c8;subst c8;have H1 : (some false) = some r:=by rw [if_neg (show ¬ (false = true) by decide)] at H; exact H
   clear H;have H:=H1;clear H1;obtain rfl:=Option.some.inj H;go_enter Tryd.func22,Tryd.ntmps22
   go_wp2_with (first | ((with_reducible refine gate_callee (f:=12) rfl ?_); refine goesL_ (some 10) rfl rfl Tryd.func12 (by kernel_rfl) rfl #[.slice A0 l0.length c0] rfl (by (try simp only [List.map_toArray,List.map_cons,List.map_nil]); first | done | rfl | (simp only [List.length_drop,List.length_take]; rfl)) ?_; (with_reducible refine (deadboltlaw6_Few.calls k _ _ l0 true _ ?side1 ?side2 A5.out).mono ?_); (case side1=>repeat (first | exact HR0.out | (with_reducible refine Kd.C_alloc ?_ _) | (with_reducible refine Kd.C_drewN ?_ _) | (with_reducible refine Kd.C_drew ?_))); (case side2=>exact HC0.out); rintro e w19 ⟨rfl,hb⟩; refine ⟨_,rfl,?_⟩; have n0_:=Aside0.mk (below_step (by repeat (first | (with_reducible first | exact HB.out | apply below_alloc | apply pw_below_drewN | apply below_drew1) | exact HB.out)) hb); clear HB; have HB:=n0_; clear n0_; (try clear hb); (try clear hb2); (try clear hk); (try clear hi)) | (go_at_call 12; (with_reducible refine (deadboltlaw6_Few.calls k _ _ l1 false _ ?side1 ?side2 A7.out).mono ?_); (case side1=>repeat (first | exact (Kd.C_below HR1.out HB.out) | (with_reducible refine Kd.C_alloc ?_ _) | (with_reducible refine Kd.C_drewN ?_ _) | (with_reducible refine Kd.C_drew ?_))); (case side2=>exact HC1.out); rintro e w20 ⟨rfl,hb⟩; have n0_:=Aside0.mk (below_step (by repeat (first | (with_reducible first | exact HB.out | apply below_alloc | apply pw_below_drewN | apply below_drew1) | exact HB.out)) hb); clear HB; have HB:=n0_; clear n0_; (try clear hb); (try clear hb2); (try clear hk); (try clear hi)))
   go_ret
   exact ⟨by first | rfl | (simp [errW_none,errW_some]<;>rfl) | (simp [*,errW_none,errW_some]<;>rfl),by repeat (first | (with_reducible first | exact HB.out | apply below_alloc | apply pw_below_drewN | apply below_drew1) | exact HB.out)⟩
 ·replace c6:=Bool.eq_false_iff.mpr c6;subst c6;have H1 : (some false) = some r:=by rw [if_neg (show ¬ (false = true) by decide)] at H; exact H
  clear H;have H:=H1;clear H1;obtain rfl:=Option.some.inj H;go_enter Tryd.func22,Tryd.ntmps22
  go_wp2_with (first | ((with_reducible refine gate_callee (f:=12) rfl ?_); refine goesL_ (some 10) rfl rfl Tryd.func12 (by kernel_rfl) rfl #[.slice A0 l0.length c0] rfl (by (try simp only [List.map_toArray,List.map_cons,List.map_nil]); first | done | rfl | (simp only [List.length_drop,List.length_take]; rfl)) ?_; (with_reducible refine (deadboltlaw6_Few.calls k _ _ l0 false _ ?side1 ?side2 A5.out).mono ?_); (case side1=>repeat (first | exact HR0.out | (with_reducible refine Kd.C_alloc ?_ _) | (with_reducible refine Kd.C_drewN ?_ _) | (with_reducible refine Kd.C_drew ?_))); (case side2=>exact HC0.out); rintro e w21 ⟨rfl,hb⟩; refine ⟨_,rfl,?_⟩; have n0_:=Aside0.mk (below_step (by repeat (first | (with_reducible first | exact HB.out | apply below_alloc | apply pw_below_drewN | apply below_drew1) | exact HB.out)) hb); clear HB; have HB:=n0_; clear n0_; (try clear hb); (try clear hb2); (try clear hk); (try clear hi)))
  go_ret
  exact ⟨by first | rfl | (simp [errW_none,errW_some]<;>rfl) | (simp [*,errW_none,errW_some]<;>rfl),by repeat (first | (with_reducible first | exact HB.out | apply below_alloc | apply pw_below_drewN | apply below_drew1) | exact HB.out)⟩

/-! ### api_early: function 56 -/
def api_early.f (a0 : Int) : Option (ByteArray) := if a0 = 0 then (some (⟨#[111, 107]⟩ : ByteArray)) else (if a0 = 1 then (some (⟨#[97, 114, 103]⟩ : ByteArray)) else (if a0 = 2 then (some (⟨#[108, 111, 110, 103]⟩ : ByteArray)) else (if a0 = 3 then (some (⟨#[100, 101, 97, 100]⟩ : ByteArray)) else (if a0 = 4 then (some (⟨#[102, 117, 108, 108]⟩ : ByteArray)) else (if a0 = 5 then (some (⟨#[110, 111, 110, 101]⟩ : ByteArray)) else (if a0 = 6 then (some (⟨#[116, 111, 107, 101, 110]⟩ : ByteArray)) else (some (⟨#[101, 114, 114, 111, 114]⟩ : ByteArray))))))))
set_option maxHeartbeats 8000000 in
set_option maxRecDepth 100000 in
theorem api_early.calls (a0 : Int) (r : ByteArray) (w : World) (h : api_early.f a0 = some r) :
  Calls Tryd.prog 56 #[.int .i64 a0] w fun e w'=>e = .returned (.string r) ∧ Drawn0 w w':=by
 have H : (if a0 = 0 then (some (⟨#[111,107]⟩:ByteArray)) else (if a0 = 1 then (some (⟨#[97,114,103]⟩:ByteArray)) else (if a0 = 2 then (some (⟨#[108,111,110,103]⟩:ByteArray)) else (if a0 = 3 then (some (⟨#[100,101,97,100]⟩:ByteArray)) else (if a0 = 4 then (some (⟨#[102,117,108,108]⟩:ByteArray)) else (if a0 = 5 then (some (⟨#[110,111,110,101]⟩:ByteArray)) else (if a0 = 6 then (some (⟨#[116,111,107,101,110]⟩:ByteArray)) else (some (⟨#[101,114,114,111,114]⟩:ByteArray))))))))) = some r:=h;clear h;by_cases c2 : a0 = 0
 ·rw [if_pos c2] at H;have c2b0 : (a0 == 0) = true:=beq_iff_eq.mpr c2;have c2b1 : (a0 != 0) = false:=bne_eq_false_iff_eq.mpr c2;clear c2;obtain rfl:=Option.some.inj H;go_enter Tryd.func56,Tryd.ntmps56
  go_wp2
  go_ret
  exact ⟨by first | rfl | (simp; done) | (simp [*]; done),by repeat (first | exact Drawn0.refl _ | apply Drawn0.step)⟩
 ·rw [if_neg c2] at H;have c2b0 : (a0 == 0) = false:=beq_eq_false_iff_ne.mpr c2;have c2b1 : (a0 != 0) = true:=bne_iff_ne.mpr c2;by_cases c3 : a0 = 1
  ·rw [if_pos c3] at H;have c3b0 : (a0 == 1) = true:=beq_iff_eq.mpr c3;have c3b1 : (a0 != 1) = false:=bne_eq_false_iff_eq.mpr c3;clear c3;obtain rfl:=Option.some.inj H;go_enter Tryd.func56,Tryd.ntmps56
   go_wp2
   go_ret
   exact ⟨by first | rfl | (simp; done) | (simp [*]; done),by repeat (first | exact Drawn0.refl _ | apply Drawn0.step)⟩
  ·rw [if_neg c3] at H;have c3b0 : (a0 == 1) = false:=beq_eq_false_iff_ne.mpr c3;have c3b1 : (a0 != 1) = true:=bne_iff_ne.mpr c3;by_cases c4 : a0 = 2
   ·rw [if_pos c4] at H;have c4b0 : (a0 == 2) = true:=beq_iff_eq.mpr c4;have c4b1 : (a0 != 2) = false:=bne_eq_false_iff_eq.mpr c4;clear c4;obtain rfl:=Option.some.inj H;go_enter Tryd.func56,Tryd.ntmps56
    go_wp2
    go_ret
    exact ⟨by first | rfl | (simp; done) | (simp [*]; done),by repeat (first | exact Drawn0.refl _ | apply Drawn0.step)⟩
   ·rw [if_neg c4] at H;have c4b0 : (a0 == 2) = false:=beq_eq_false_iff_ne.mpr c4;have c4b1 : (a0 != 2) = true:=bne_iff_ne.mpr c4;by_cases c5 : a0 = 3
    ·rw [if_pos c5] at H;have c5b0 : (a0 == 3) = true:=beq_iff_eq.mpr c5;have c5b1 : (a0 != 3) = false:=bne_eq_false_iff_eq.mpr c5;clear c5;obtain rfl:=Option.some.inj H;go_enter Tryd.func56,Tryd.ntmps56
     go_wp2
     go_ret
     exact ⟨by first | rfl | (simp; done) | (simp [*]; done),by repeat (first | exact Drawn0.refl _ | apply Drawn0.step)⟩
    ·rw [if_neg c5] at H;have c5b0 : (a0 == 3) = false:=beq_eq_false_iff_ne.mpr c5;have c5b1 : (a0 != 3) = true:=bne_iff_ne.mpr c5;by_cases c6 : a0 = 4
     ·rw [if_pos c6] at H;have c6b0 : (a0 == 4) = true:=beq_iff_eq.mpr c6;have c6b1 : (a0 != 4) = false:=bne_eq_false_iff_eq.mpr c6;clear c6;obtain rfl:=Option.some.inj H;go_enter Tryd.func56,Tryd.ntmps56
      go_wp2
      go_ret
      exact ⟨by first | rfl | (simp; done) | (simp [*]; done),by repeat (first | exact Drawn0.refl _ | apply Drawn0.step)⟩
     ·rw [if_neg c6] at H;have c6b0 : (a0 == 4) = false:=beq_eq_false_iff_ne.mpr c6;have c6b1 : (a0 != 4) = true:=bne_iff_ne.mpr c6;by_cases c7 : a0 = 5
      ·rw [if_pos c7] at H;have c7b0 : (a0 == 5) = true:=beq_iff_eq.mpr c7;have c7b1 : (a0 != 5) = false:=bne_eq_false_iff_eq.mpr c7;clear c7;obtain rfl:=Option.some.inj H;go_enter Tryd.func56,Tryd.ntmps56
       go_wp2
       go_ret
       exact ⟨by first | rfl | (simp; done) | (simp [*]; done),by repeat (first | exact Drawn0.refl _ | apply Drawn0.step)⟩
      ·rw [if_neg c7] at H;have c7b0 : (a0 == 5) = false:=beq_eq_false_iff_ne.mpr c7;have c7b1 : (a0 != 5) = true:=bne_iff_ne.mpr c7;by_cases c8 : a0 = 6
       ·rw [if_pos c8] at H;have c8b0 : (a0 == 6) = true:=beq_iff_eq.mpr c8;have c8b1 : (a0 != 6) = false:=bne_eq_false_iff_eq.mpr c8;clear c8;obtain rfl:=Option.some.inj H;go_enter Tryd.func56,Tryd.ntmps56
        go_wp2
        go_ret
        exact ⟨by first | rfl | (simp; done) | (simp [*]; done),by repeat (first | exact Drawn0.refl _ | apply Drawn0.step)⟩
       ·rw [if_neg c8] at H;have c8b0 : (a0 == 6) = false:=beq_eq_false_iff_ne.mpr c8;have c8b1 : (a0 != 6) = true:=bne_iff_ne.mpr c8;obtain rfl:=Option.some.inj H;go_enter Tryd.func56,Tryd.ntmps56
        go_wp2
        go_ret
        exact ⟨by first | rfl | (simp; done) | (simp [*]; done),by repeat (first | exact Drawn0.refl _ | apply Drawn0.step)⟩

/-! ### api_late: function 57 -/
def api_late.f (a0 : Int) : Option (ByteArray) := if a0 = 7 then (some (⟨#[102, 111, 114, 109]⟩ : ByteArray)) else (if a0 = 8 then (some (⟨#[100, 101, 101, 112]⟩ : ByteArray)) else (if a0 = 9 then (some (⟨#[116, 119, 105, 99, 101]⟩ : ByteArray)) else (if a0 = 10 then (some (⟨#[110, 97, 109, 101]⟩ : ByteArray)) else (if a0 = 11 then (some (⟨#[109, 97, 105, 110]⟩ : ByteArray)) else (if a0 = 12 then (some (⟨#[112, 114, 111, 116, 111]⟩ : ByteArray)) else (some (⟨#[101, 114, 114, 111, 114]⟩ : ByteArray)))))))
set_option maxHeartbeats 8000000 in
set_option maxRecDepth 100000 in
theorem api_late.calls (a0 : Int) (r : ByteArray) (w : World) (h : api_late.f a0 = some r) :
  Calls Tryd.prog 57 #[.int .i64 a0] w fun e w'=>e = .returned (.string r) ∧ Drawn0 w w':=by
 have H : (if a0 = 7 then (some (⟨#[102,111,114,109]⟩:ByteArray)) else (if a0 = 8 then (some (⟨#[100,101,101,112]⟩:ByteArray)) else (if a0 = 9 then (some (⟨#[116,119,105,99,101]⟩:ByteArray)) else (if a0 = 10 then (some (⟨#[110,97,109,101]⟩:ByteArray)) else (if a0 = 11 then (some (⟨#[109,97,105,110]⟩:ByteArray)) else (if a0 = 12 then (some (⟨#[112,114,111,116,111]⟩:ByteArray)) else (some (⟨#[101,114,114,111,114]⟩:ByteArray)))))))) = some r:=h;clear h;by_cases c2 : a0 = 7
 ·rw [if_pos c2] at H;have c2b0 : (a0 == 7) = true:=beq_iff_eq.mpr c2;have c2b1 : (a0 != 7) = false:=bne_eq_false_iff_eq.mpr c2;clear c2;obtain rfl:=Option.some.inj H;go_enter Tryd.func57,Tryd.ntmps57
  go_wp2
  go_ret
  exact ⟨by first | rfl | (simp; done) | (simp [*]; done),by repeat (first | exact Drawn0.refl _ | apply Drawn0.step)⟩
 ·rw [if_neg c2] at H;have c2b0 : (a0 == 7) = false:=beq_eq_false_iff_ne.mpr c2;have c2b1 : (a0 != 7) = true:=bne_iff_ne.mpr c2;by_cases c3 : a0 = 8
  ·rw [if_pos c3] at H;have c3b0 : (a0 == 8) = true:=beq_iff_eq.mpr c3;have c3b1 : (a0 != 8) = false:=bne_eq_false_iff_eq.mpr c3;clear c3;obtain rfl:=Option.some.inj H;go_enter Tryd.func57,Tryd.ntmps57
   go_wp2
   go_ret
   exact ⟨by first | rfl | (simp; done) | (simp [*]; done),by repeat (first | exact Drawn0.refl _ | apply Drawn0.step)⟩
  ·rw [if_neg c3] at H;have c3b0 : (a0 == 8) = false:=beq_eq_false_iff_ne.mpr c3;have c3b1 : (a0 != 8) = true:=bne_iff_ne.mpr c3;by_cases c4 : a0 = 9
   ·rw [if_pos c4] at H;have c4b0 : (a0 == 9) = true:=beq_iff_eq.mpr c4;have c4b1 : (a0 != 9) = false:=bne_eq_false_iff_eq.mpr c4;clear c4;obtain rfl:=Option.some.inj H;go_enter Tryd.func57,Tryd.ntmps57
    go_wp2
    go_ret
    exact ⟨by first | rfl | (simp; done) | (simp [*]; done),by repeat (first | exact Drawn0.refl _ | apply Drawn0.step)⟩
   ·rw [if_neg c4] at H;have c4b0 : (a0 == 9) = false:=beq_eq_false_iff_ne.mpr c4;have c4b1 : (a0 != 9) = true:=bne_iff_ne.mpr c4;by_cases c5 : a0 = 10
    ·rw [if_pos c5] at H;have c5b0 : (a0 == 10) = true:=beq_iff_eq.mpr c5;have c5b1 : (a0 != 10) = false:=bne_eq_false_iff_eq.mpr c5;clear c5;obtain rfl:=Option.some.inj H;go_enter Tryd.func57,Tryd.ntmps57
     go_wp2
     go_ret
     exact ⟨by first | rfl | (simp; done) | (simp [*]; done),by repeat (first | exact Drawn0.refl _ | apply Drawn0.step)⟩
    ·rw [if_neg c5] at H;have c5b0 : (a0 == 10) = false:=beq_eq_false_iff_ne.mpr c5;have c5b1 : (a0 != 10) = true:=bne_iff_ne.mpr c5;by_cases c6 : a0 = 11
     ·rw [if_pos c6] at H;have c6b0 : (a0 == 11) = true:=beq_iff_eq.mpr c6;have c6b1 : (a0 != 11) = false:=bne_eq_false_iff_eq.mpr c6;clear c6;obtain rfl:=Option.some.inj H;go_enter Tryd.func57,Tryd.ntmps57
      go_wp2
      go_ret
      exact ⟨by first | rfl | (simp; done) | (simp [*]; done),by repeat (first | exact Drawn0.refl _ | apply Drawn0.step)⟩
     ·rw [if_neg c6] at H;have c6b0 : (a0 == 11) = false:=beq_eq_false_iff_ne.mpr c6;have c6b1 : (a0 != 11) = true:=bne_iff_ne.mpr c6;by_cases c7 : a0 = 12
      ·rw [if_pos c7] at H;have c7b0 : (a0 == 12) = true:=beq_iff_eq.mpr c7;have c7b1 : (a0 != 12) = false:=bne_eq_false_iff_eq.mpr c7;clear c7;obtain rfl:=Option.some.inj H;go_enter Tryd.func57,Tryd.ntmps57
       go_wp2
       go_ret
       exact ⟨by first | rfl | (simp; done) | (simp [*]; done),by repeat (first | exact Drawn0.refl _ | apply Drawn0.step)⟩
      ·rw [if_neg c7] at H;have c7b0 : (a0 == 12) = false:=beq_eq_false_iff_ne.mpr c7;have c7b1 : (a0 != 12) = true:=bne_iff_ne.mpr c7;obtain rfl:=Option.some.inj H;go_enter Tryd.func57,Tryd.ntmps57
       go_wp2
       go_ret
       exact ⟨by first | rfl | (simp; done) | (simp [*]; done),by repeat (first | exact Drawn0.refl _ | apply Drawn0.step)⟩

/-! ### api_Errno_Error: function 27 -/
def api_Errno_Error.f (a0 : Int) : Option (ByteArray) := if a0 ≤ 6 then ((api_early.f a0).bind fun t595 => (some t595)) else ((api_late.f a0).bind fun t596 => (some t596))
set_option maxHeartbeats 8000000 in
set_option maxRecDepth 100000 in
theorem api_Errno_Error.calls (a0 : Int) (r : ByteArray) (w : World) (h : api_Errno_Error.f a0 = some r) :
  Calls Tryd.prog 27 #[.int .i64 a0] w fun e w'=>e = .returned (.string r) ∧ Drawn0 w w':=by
 have H : (if a0 ≤ 6 then ((api_early.f a0).bind fun t595=>(some t595)) else ((api_late.f a0).bind fun t596=>(some t596))) = some r:=h;clear h;by_cases c2 : a0 ≤ 6
 ·rw [if_pos c2] at H;have c2b0 : decide (a0 ≤ 6) = true:=decide_eq_true c2;clear c2;replace H:=Option.bind_eq_some_iff.mp H;obtain ⟨t595,A30,H⟩:=H;replace H : (some t595) = some r:=H;have A3:=Aside0.mk A30;clear A30;obtain rfl:=Option.some.inj H;go_enter Tryd.func27,Tryd.ntmps27
  go_wp2_with (first | ((with_reducible refine gate_callee (f:=56) rfl ?_); refine goesL_ (some 6) rfl rfl Tryd.func56 (by kernel_rfl) rfl #[.int .i64 a0] rfl (by (try simp only [List.map_toArray,List.map_cons,List.map_nil]); first | done | rfl | (simp only [List.length_drop,List.length_take]; rfl)) ?_; (with_reducible refine (api_early.calls a0 t595 _ A3.out).mono ?_); rintro e w' ⟨rfl,⟨nd,rfl⟩⟩; refine ⟨_,rfl,?_⟩))
  go_ret
  exact ⟨by first | rfl | (simp; done) | (simp [*]; done),by repeat (first | exact Drawn0.refl _ | apply Drawn0.step)⟩
 ·rw [if_neg c2] at H;have c2b0 : decide (a0 ≤ 6) = false:=decide_eq_false c2;clear c2;replace H:=Option.bind_eq_some_iff.mp H;obtain ⟨t596,A40,H⟩:=H;replace H : (some t596) = some r:=H;have A4:=Aside0.mk A40;clear A40;obtain rfl:=Option.some.inj H;go_enter Tryd.func27,Tryd.ntmps27
  go_wp2_with (first | ((with_reducible refine gate_callee (f:=57) rfl ?_); refine goesL_ (some 8) rfl rfl Tryd.func57 (by kernel_rfl) rfl #[.int .i64 a0] rfl (by (try simp only [List.map_toArray,List.map_cons,List.map_nil]); first | done | rfl | (simp only [List.length_drop,List.length_take]; rfl)) ?_; (with_reducible refine (api_late.calls a0 t596 _ A4.out).mono ?_); rintro e w' ⟨rfl,⟨nd,rfl⟩⟩; refine ⟨_,rfl,?_⟩))
  go_ret
  exact ⟨by first | rfl | (simp; done) | (simp [*]; done),by repeat (first | exact Drawn0.refl _ | apply Drawn0.step)⟩

/-! ### deadboltlaw5_within: function 30 -/
def deadboltlaw5_within.f (a0 : Int) (a1 : Int) : Option (Int) := if a1 = 0 then (none) else (if (Int.tmod a0 a1) < 0 then (some (wrap64 ((Int.tmod a0 a1) + a1))) else (some (Int.tmod a0 a1)))
set_option maxHeartbeats 8000000 in
set_option maxRecDepth 100000 in
theorem deadboltlaw5_within.calls (a0 : Int) (a1 : Int) (r : Int) (w : World) (h : deadboltlaw5_within.f a0 a1 = some r) :
  Calls Tryd.prog 30 #[.int .i64 a0,.int .i64 a1] w fun e w'=>e = .returned (.int .i64 r) ∧ Drawn0 w w':=by
 have H : (if a1 = 0 then (none) else (if (Int.tmod a0 a1) < 0 then (some (wrap64 ((Int.tmod a0 a1) + a1))) else (some (Int.tmod a0 a1)))) = some r:=h;clear h;by_cases c3 : a1 = 0
 ·rw [if_pos c3] at H;exact absurd H (by simp)
 ·rw [if_neg c3] at H;have c3b0 : (a1 == 0) = false:=beq_eq_false_iff_ne.mpr c3;have c3b1 : (a1 != 0) = true:=bne_iff_ne.mpr c3;by_cases c4 : (Int.tmod a0 a1) < 0
  ·rw [if_pos c4] at H;have c4b0 : decide ((Int.tmod a0 a1) < 0) = true:=decide_eq_true c4;clear c4;obtain rfl:=Option.some.inj H;go_enter Tryd.func30,Tryd.ntmps30
   go_wp2
   go_ret
   exact ⟨by first | rfl | (simp; done) | (simp [*]; done),by repeat (first | exact Drawn0.refl _ | apply Drawn0.step)⟩
  ·rw [if_neg c4] at H;have c4b0 : decide ((Int.tmod a0 a1) < 0) = false:=decide_eq_false c4;clear c4;obtain rfl:=Option.some.inj H;go_enter Tryd.func30,Tryd.ntmps30
   go_wp2
   go_ret
   exact ⟨by first | rfl | (simp; done) | (simp [*]; done),by repeat (first | exact Drawn0.refl _ | apply Drawn0.step)⟩

/-! ### deadboltlaw5_Text: function 16 -/
def deadboltlaw5_Text.l0 : Nat → List Int → ByteArray → Int → Option (ByteArray)
 | 0,_,_,_=>none
 | k + 1,x0,x3,x4=>if x4 < (x0.length:Int) then (if x4 < 150 then ((some (([(⟨#[123]⟩:ByteArray),(⟨#[125]⟩:ByteArray),(⟨#[32]⟩:ByteArray),(⟨#[120]⟩:ByteArray),(⟨#[108]⟩:ByteArray),(⟨#[109,97,105,110]⟩:ByteArray),(⟨#[117,115,101,32]⟩:ByteArray),(⟨#[115,101,116,32]⟩:ByteArray),(⟨#[108,111,99,107,32]⟩:ByteArray),(⟨#[117,110,108,111,99,107,32]⟩:ByteArray),(⟨#[99,97,108,108,32]⟩:ByteArray),(⟨#[115,112,97,119,110,32]⟩:ByteArray),(⟨#[105,102,32]⟩:ByteArray),(⟨#[101,108,115,101,32]⟩:ByteArray),(⟨#[108,111,111,112,32]⟩:ByteArray),(⟨#[118,97,114,32]⟩:ByteArray),(⟨#[102,117,110,99,32]⟩:ByteArray),(⟨#[102,32]⟩:ByteArray),(⟨#[57]⟩:ByteArray),(⟨#[10]⟩:ByteArray),(⟨#[9]⟩:ByteArray),(⟨#[65]⟩:ByteArray),(⟨#[109,50]⟩:ByteArray),(⟨#[97,98,99,100,101,102,103,104,105,106,107,108,109]⟩:ByteArray)] : List ByteArray) : List ByteArray)).bind fun y300=>(if 0 ≤ x4 then ((deadboltlaw5_within.f (rd x0 x4) 24).bind fun t304=>(if 0 ≤ t304 then (if t304 < (y300.length:Int) then (if x3.size + (rdOf ByteArray.empty y300 t304).size ≤ 9223372036854775807 then (deadboltlaw5_Text.l0 k x0 (x3 ++ (rdOf ByteArray.empty y300 t304)) (wrap64 (x4 + 1))) else (none)) else (none)) else (none))) else (none))) else (some x3)) else (some x3)
def deadboltlaw5_Text.f (k : Nat) (l0 : List Int) : Option (ByteArray) := deadboltlaw5_Text.l0 k l0 (⟨#[]⟩ : ByteArray) 0
theorem deadboltlaw5_Text.mono_l : ∀ k, (∀ y0 y1 y2, LeO (deadboltlaw5_Text.l0 k y0 y1 y2) (deadboltlaw5_Text.l0 (k + 1) y0 y1 y2))
 | 0=>fun _ _ _ r h=>by simp [deadboltlaw5_Text.l0] at h
 | k + 1=>by
  have ih0:=deadboltlaw5_Text.mono_l k
  ·intro y0 y1 y2;unfold deadboltlaw5_Text.l0
   repeat' first
   | (with_reducible exact ih0 _ _ _)
   | (with_reducible exact LeO.refl _)
   | (with_reducible exact LeO.none _)
   | (with_reducible refine LeO.ite ?_ ?_)
   | (with_reducible refine LeO.bind ?_ (fun _=>?_))
   | exact ih0 _ _ _
   | exact LeO.none _
   | refine LeO.ite ?_ ?_
   | refine LeO.bind ?_ (fun _=>?_)
theorem deadboltlaw5_Text.mono : ∀ a0 k, LeO (deadboltlaw5_Text.f k a0) (deadboltlaw5_Text.f (k + 1) a0) := by
 intro a0 k;have ih0:=deadboltlaw5_Text.mono_l k;unfold deadboltlaw5_Text.f
 repeat' first
   | (with_reducible exact ih0 _ _ _)
   | (with_reducible exact LeO.refl _)
   | (with_reducible exact LeO.none _)
   | (with_reducible refine LeO.ite ?_ ?_)
   | (with_reducible refine LeO.bind ?_ (fun _=>?_))
   | exact ih0 _ _ _
   | exact LeO.none _
   | refine LeO.ite ?_ ?_
   | refine LeO.bind ?_ (fun _=>?_)
set_option maxHeartbeats 8000000 in
set_option maxRecDepth 100000 in
theorem deadboltlaw5_Text.calls (k : Nat) (A0 : Option Addr) (c0 : Nat) (l0 : List Int) (r : ByteArray) (w : World) (hr0 : Kd.C (Kd.int .i64) w A0 l0.length l0) (hc0 : l0.length ≤ c0) (h : deadboltlaw5_Text.f k l0 = some r) :
  Calls Tryd.prog 16 #[.slice A0 l0.length c0] w fun e w'=>e = .returned (.string r) ∧ Below w.heap.size w w':=by
 have HR0:=Aside0.mk hr0;have HC0:=Aside0.mk hc0;clear hr0 hc0;have HB:=Aside0.mk (Below.refl w.heap.size w);have H : (deadboltlaw5_Text.l0 k l0 (⟨#[]⟩:ByteArray) 0) = some r:=h;clear h;have H':=Aside0.mk H;clear H;go_enter Tryd.func16,Tryd.ntmps16
 go_wp2
 go_loopg [3,4] k (fun kq v3 v4 w'=>∃ (x3_1:ByteArray) (x4_1:Int),v3 = .string x3_1 ∧ v4 = .int .i64 x4_1 ∧ Aside0 (deadboltlaw5_Text.l0 kq l0 x3_1 x4_1 = some r) ∧ Aside0 (kq ≤ k) ∧ Aside0 (Below w.heap.size w w'))
 case atStart=>exact ⟨((⟨#[]⟩:ByteArray)),(0),(by first | rfl | (simp; done) | (simp [*]; done)),(by first | rfl | (simp; done) | (simp [*]; done)),H',⟨Nat.le_refl _⟩,⟨by repeat (first | (with_reducible first | exact HB.out | apply below_alloc | apply pw_below_drewN | apply below_drew1) | exact HB.out)⟩⟩
 case round =>
  clear H';try clear c1
  obtain ⟨x3_1,x4_1,rfl,rfl,HA,HK1,HB⟩:=hrel;cases gk with
  | zero=>exact absurd HA.out (by simp [deadboltlaw5_Text.l0])
  | succ k1 =>
   have H:=HA.out;clear HA;simp only [deadboltlaw5_Text.l0] at H;by_cases c2 : x4_1 < (l0.length:Int)
   ·rw [if_pos c2] at H;have c2b0 : decide (x4_1 < (l0.length:Int)) = true:=decide_eq_true c2;clear c2;by_cases c3 : x4_1 < 150
    ·rw [if_pos c3] at H;have c3b0 : decide (x4_1 < 150) = true:=decide_eq_true c3;clear c3;obtain ⟨y300,hy300⟩ : ∃ y_ : List ByteArray,y_ = (([(⟨#[123]⟩:ByteArray),(⟨#[125]⟩:ByteArray),(⟨#[32]⟩:ByteArray),(⟨#[120]⟩:ByteArray),(⟨#[108]⟩:ByteArray),(⟨#[109,97,105,110]⟩:ByteArray),(⟨#[117,115,101,32]⟩:ByteArray),(⟨#[115,101,116,32]⟩:ByteArray),(⟨#[108,111,99,107,32]⟩:ByteArray),(⟨#[117,110,108,111,99,107,32]⟩:ByteArray),(⟨#[99,97,108,108,32]⟩:ByteArray),(⟨#[115,112,97,119,110,32]⟩:ByteArray),(⟨#[105,102,32]⟩:ByteArray),(⟨#[101,108,115,101,32]⟩:ByteArray),(⟨#[108,111,111,112,32]⟩:ByteArray),(⟨#[118,97,114,32]⟩:ByteArray),(⟨#[102,117,110,99,32]⟩:ByteArray),(⟨#[102,32]⟩:ByteArray),(⟨#[57]⟩:ByteArray),(⟨#[10]⟩:ByteArray),(⟨#[9]⟩:ByteArray),(⟨#[65]⟩:ByteArray),(⟨#[109,50]⟩:ByteArray),(⟨#[97,98,99,100,101,102,103,104,105,106,107,108,109]⟩:ByteArray)] : List ByteArray)):=⟨_,rfl⟩;replace H : (if 0 ≤ x4_1 then ((deadboltlaw5_within.f (rd l0 x4_1) 24).bind fun t304=>(if 0 ≤ t304 then (if t304 < (y300.length:Int) then (if x3_1.size + (rdOf ByteArray.empty y300 t304).size ≤ 9223372036854775807 then (deadboltlaw5_Text.l0 k1 l0 (x3_1 ++ (rdOf ByteArray.empty y300 t304)) (wrap64 (x4_1 + 1))) else (none)) else (none)) else (none))) else (none)) = some r:=by first | (rw [hy300]; with_reducible exact H) | (have H2_:=(Option.bind_some _ _).symm.trans H; rw [hy300]; with_reducible exact H2_) | (have H2_:=(Option.bind_some _ _).symm.trans H; with_reducible exact H2_) | with_reducible exact H | (rw [hy300]; exact H) | exact H
     have Ny300:=Aside0.mk hy300;clear hy300;by_cases c4 : 0 ≤ x4_1
     ·rw [if_pos c4] at H;have c4b0 : decide (0 ≤ x4_1) = true:=decide_eq_true c4;clear c4;replace H:=Option.bind_eq_some_iff.mp H;obtain ⟨t304,A50,H⟩:=H;replace H : (if 0 ≤ t304 then (if t304 < (y300.length:Int) then (if x3_1.size + (rdOf ByteArray.empty y300 t304).size ≤ 9223372036854775807 then (deadboltlaw5_Text.l0 k1 l0 (x3_1 ++ (rdOf ByteArray.empty y300 t304)) (wrap64 (x4_1 + 1))) else (none)) else (none)) else (none)) = some r:=H;have A5:=Aside0.mk A50;clear A50;by_cases c6 : 0 ≤ t304
      ·rw [if_pos c6] at H;have c6b0 : decide (0 ≤ t304) = true:=decide_eq_true c6;clear c6;by_cases c7 : t304 < (y300.length:Int)
       ·rw [if_pos c7] at H;have c7b0 : decide (t304 < (y300.length:Int)) = true:=decide_eq_true c7;clear c7;by_cases c8 : x3_1.size + (rdOf ByteArray.empty y300 t304).size ≤ 9223372036854775807
        ·rw [if_pos c8] at H;have c8b0:=eq_true c8;have c8b1 : decide (x3_1.size + (rdOf ByteArray.empty y300 t304).size ≤ 9223372036854775807) = true:=decide_eq_true c8;try have c8b2 : (9223372036854775807 < x3_1.size + (rdOf ByteArray.empty y300 t304).size) = False:=eq_false (Nat.not_lt.2 c8)
         have H':=Aside0.mk H;clear H;go_wp2_with (first | ((with_reducible refine gate_dst (N:=16) rfl ?_); refine Kd.R_lit Kd.string _ 9 ?hg (N:=16) ?hd (xs:=([(⟨#[123]⟩:ByteArray),(⟨#[125]⟩:ByteArray),(⟨#[32]⟩:ByteArray),(⟨#[120]⟩:ByteArray),(⟨#[108]⟩:ByteArray),(⟨#[109,97,105,110]⟩:ByteArray),(⟨#[117,115,101,32]⟩:ByteArray),(⟨#[115,101,116,32]⟩:ByteArray),(⟨#[108,111,99,107,32]⟩:ByteArray),(⟨#[117,110,108,111,99,107,32]⟩:ByteArray),(⟨#[99,97,108,108,32]⟩:ByteArray),(⟨#[115,112,97,119,110,32]⟩:ByteArray),(⟨#[105,102,32]⟩:ByteArray),(⟨#[101,108,115,101,32]⟩:ByteArray),(⟨#[108,111,111,112,32]⟩:ByteArray),(⟨#[118,97,114,32]⟩:ByteArray),(⟨#[102,117,110,99,32]⟩:ByteArray),(⟨#[102,32]⟩:ByteArray),(⟨#[57]⟩:ByteArray),(⟨#[10]⟩:ByteArray),(⟨#[9]⟩:ByteArray),(⟨#[65]⟩:ByteArray),(⟨#[109,50]⟩:ByteArray),(⟨#[97,98,99,100,101,102,103,104,105,106,107,108,109]⟩:ByteArray)] : List ByteArray)) (inner:=[.string (⟨#[123]⟩:ByteArray),.string (⟨#[125]⟩:ByteArray),.string (⟨#[32]⟩:ByteArray),.string (⟨#[120]⟩:ByteArray),.string (⟨#[108]⟩:ByteArray),.string (⟨#[109,97,105,110]⟩:ByteArray),.string (⟨#[117,115,101,32]⟩:ByteArray),.string (⟨#[115,101,116,32]⟩:ByteArray),.string (⟨#[108,111,99,107,32]⟩:ByteArray),.string (⟨#[117,110,108,111,99,107,32]⟩:ByteArray),.string (⟨#[99,97,108,108,32]⟩:ByteArray),.string (⟨#[115,112,97,119,110,32]⟩:ByteArray),.string (⟨#[105,102,32]⟩:ByteArray),.string (⟨#[101,108,115,101,32]⟩:ByteArray),.string (⟨#[108,111,111,112,32]⟩:ByteArray),.string (⟨#[118,97,114,32]⟩:ByteArray),.string (⟨#[102,117,110,99,32]⟩:ByteArray),.string (⟨#[102,32]⟩:ByteArray),.string (⟨#[57]⟩:ByteArray),.string (⟨#[10]⟩:ByteArray),.string (⟨#[9]⟩:ByteArray),.string (⟨#[65]⟩:ByteArray),.string (⟨#[109,50]⟩:ByteArray),.string (⟨#[97,98,99,100,101,102,103,104,105,106,107,108,109]⟩:ByteArray)]) (ok:=fun _=>True) (okp:=fun _=>True) ?hr ?hp (fun _ hk=>hk) trivial (Below.refl _ _) (Nat.le_refl _) (by simp) ?_; (case hd=>rfl); (case hg=>rfl); (case hr=>first | (go_simp; done) | (go_simp; rfl)); (case hp=>exact (Reps.one (show Kd.M Kd.string _ _ _ (⟨#[123]⟩:ByteArray) [.string (⟨#[123]⟩:ByteArray)] from rfl) (Reps.one (show Kd.M Kd.string _ _ _ (⟨#[125]⟩:ByteArray) [.string (⟨#[125]⟩:ByteArray)] from rfl) (Reps.one (show Kd.M Kd.string _ _ _ (⟨#[32]⟩:ByteArray) [.string (⟨#[32]⟩:ByteArray)] from rfl) (Reps.one (show Kd.M Kd.string _ _ _ (⟨#[120]⟩:ByteArray) [.string (⟨#[120]⟩:ByteArray)] from rfl) (Reps.one (show Kd.M Kd.string _ _ _ (⟨#[108]⟩:ByteArray) [.string (⟨#[108]⟩:ByteArray)] from rfl) (Reps.one (show Kd.M Kd.string _ _ _ (⟨#[109,97,105,110]⟩:ByteArray) [.string (⟨#[109,97,105,110]⟩:ByteArray)] from rfl) (Reps.one (show Kd.M Kd.string _ _ _ (⟨#[117,115,101,32]⟩:ByteArray) [.string (⟨#[117,115,101,32]⟩:ByteArray)] from rfl) (Reps.one (show Kd.M Kd.string _ _ _ (⟨#[115,101,116,32]⟩:ByteArray) [.string (⟨#[115,101,116,32]⟩:ByteArray)] from rfl) (Reps.one (show Kd.M Kd.string _ _ _ (⟨#[108,111,99,107,32]⟩:ByteArray) [.string (⟨#[108,111,99,107,32]⟩:ByteArray)] from rfl) (Reps.one (show Kd.M Kd.string _ _ _ (⟨#[117,110,108,111,99,107,32]⟩:ByteArray) [.string (⟨#[117,110,108,111,99,107,32]⟩:ByteArray)] from rfl) (Reps.one (show Kd.M Kd.string _ _ _ (⟨#[99,97,108,108,32]⟩:ByteArray) [.string (⟨#[99,97,108,108,32]⟩:ByteArray)] from rfl) (Reps.one (show Kd.M Kd.string _ _ _ (⟨#[115,112,97,119,110,32]⟩:ByteArray) [.string (⟨#[115,112,97,119,110,32]⟩:ByteArray)] from rfl) (Reps.one (show Kd.M Kd.string _ _ _ (⟨#[105,102,32]⟩:ByteArray) [.string (⟨#[105,102,32]⟩:ByteArray)] from rfl) (Reps.one (show Kd.M Kd.string _ _ _ (⟨#[101,108,115,101,32]⟩:ByteArray) [.string (⟨#[101,108,115,101,32]⟩:ByteArray)] from rfl) (Reps.one (show Kd.M Kd.string _ _ _ (⟨#[108,111,111,112,32]⟩:ByteArray) [.string (⟨#[108,111,111,112,32]⟩:ByteArray)] from rfl) (Reps.one (show Kd.M Kd.string _ _ _ (⟨#[118,97,114,32]⟩:ByteArray) [.string (⟨#[118,97,114,32]⟩:ByteArray)] from rfl) (Reps.one (show Kd.M Kd.string _ _ _ (⟨#[102,117,110,99,32]⟩:ByteArray) [.string (⟨#[102,117,110,99,32]⟩:ByteArray)] from rfl) (Reps.one (show Kd.M Kd.string _ _ _ (⟨#[102,32]⟩:ByteArray) [.string (⟨#[102,32]⟩:ByteArray)] from rfl) (Reps.one (show Kd.M Kd.string _ _ _ (⟨#[57]⟩:ByteArray) [.string (⟨#[57]⟩:ByteArray)] from rfl) (Reps.one (show Kd.M Kd.string _ _ _ (⟨#[10]⟩:ByteArray) [.string (⟨#[10]⟩:ByteArray)] from rfl) (Reps.one (show Kd.M Kd.string _ _ _ (⟨#[9]⟩:ByteArray) [.string (⟨#[9]⟩:ByteArray)] from rfl) (Reps.one (show Kd.M Kd.string _ _ _ (⟨#[65]⟩:ByteArray) [.string (⟨#[65]⟩:ByteArray)] from rfl) (Reps.one (show Kd.M Kd.string _ _ _ (⟨#[109,50]⟩:ByteArray) [.string (⟨#[109,50]⟩:ByteArray)] from rfl) (Reps.one (show Kd.M Kd.string _ _ _ (⟨#[97,98,99,100,101,102,103,104,105,106,107,108,109]⟩:ByteArray) [.string (⟨#[97,98,99,100,101,102,103,104,105,106,107,108,109]⟩:ByteArray)] from rfl) (Reps.none _ _)))))))))))))))))))))))))); intro v301 w9 ho10 hb hg_ hnew_; clear hg_ hnew_; (first | rw [← Ny300.out] at ho10 | (simp only [Int.reduceToNat] at ho10; rw [← Ny300.out] at ho10)); have n0_:=Aside0.mk (Kd.R_lower ho10 (below_size (by repeat (first | (with_reducible first | exact HB.out | apply below_alloc | apply pw_below_drewN | apply below_drew1) | exact HB.out)))); have n1_:=Aside0.mk (below_step (by repeat (first | (with_reducible first | exact HB.out | apply below_alloc | apply pw_below_drewN | apply below_drew1) | exact HB.out)) hb); clear HB; have HO302:=n0_; have HB:=n1_; clear n0_ n1_; clear hb ho10; have p303 : 0 ≤ (x4_1:Int):=of_decide_eq_true (by first | (with_reducible assumption) | assumption); have q303 : x4_1 < (l0.length:Int):=of_decide_eq_true (by first | (with_reducible assumption) | assumption); obtain ⟨ad303,e303,hx303_0⟩:=Kd.at_int HR0.out x4_1 p303 q303; cases e303; replace hx303_0:=(HB.out.cell (World.block_lt_of_cell? w _ hx303_0)).trans hx303_0; replace p303:=eq_true p303; replace q303:=eq_true q303) | ((with_reducible refine gate_callee (f:=30) rfl ?_); refine goesL_ (some 21) rfl rfl Tryd.func30 (by kernel_rfl) rfl #[.int .i64 (rd l0 x4_1),.int .i64 24] rfl (by (try simp only [List.map_toArray,List.map_cons,List.map_nil]); first | done | rfl | (simp only [List.length_drop,List.length_take]; rfl)) ?_; (with_reducible refine (deadboltlaw5_within.calls (rd l0 x4_1) 24 t304 _ A5.out).mono ?_); rintro e w' ⟨rfl,⟨nd,rfl⟩⟩; refine ⟨_,rfl,?_⟩; obtain ⟨Ao11,co11,eo11⟩:=Kd.R_slice HO302.out; subst eo11; have p305 : 0 ≤ (t304:Int):=of_decide_eq_true (by first | (with_reducible assumption) | assumption); have q305 : t304 < (y300.length:Int):=of_decide_eq_true (by first | (with_reducible assumption) | assumption); obtain ⟨ad305,e305,hx305_0⟩:=Kd.at_string (Kd.R_reads' HO302.out).2.2 t304 p305 q305; cases e305; replace p305:=eq_true p305; replace q305:=eq_true q305))
         go_roundg k1
         case measure=>have:=HK1.out; omega
         case rel=>exact ⟨(x3_1 ++ (rdOf ByteArray.empty y300 t304)),(wrap64 (x4_1 + 1)),(by first | rfl | (simp; done) | (simp [*]; done)),(by first | rfl | (simp; done) | (simp [*]; done)),H',⟨by have:=HK1.out; omega⟩,⟨by repeat (first | (with_reducible first | exact HB.out | apply below_alloc | apply pw_below_drewN | apply below_drew1) | exact HB.out)⟩⟩
        ·rw [if_neg c8] at H;exact absurd H (by simp)
       ·rw [if_neg c7] at H;exact absurd H (by simp)
      ·rw [if_neg c6] at H;exact absurd H (by simp)
     ·rw [if_neg c4] at H;exact absurd H (by simp)
    ·rw [if_neg c3] at H;have c3b0 : decide (x4_1 < 150) = false:=decide_eq_false c3;clear c3;obtain rfl:=Option.some.inj H;go_wp2
     go_ret
     exact ⟨by first | rfl | (simp [errW_none,errW_some]<;>rfl) | (simp [*,errW_none,errW_some]<;>rfl),by repeat (first | (with_reducible first | exact HB.out | apply below_alloc | apply pw_below_drewN | apply below_drew1) | exact HB.out)⟩
   ·rw [if_neg c2] at H;have c2b0 : decide (x4_1 < (l0.length:Int)) = false:=decide_eq_false c2;clear c2;obtain rfl:=Option.some.inj H;go_wp2
    go_ret
    exact ⟨by first | rfl | (simp [errW_none,errW_some]<;>rfl) | (simp [*,errW_none,errW_some]<;>rfl),by repeat (first | (with_reducible first | exact HB.out | apply below_alloc | apply pw_below_drewN | apply below_drew1) | exact HB.out)⟩

/-! ### deadboltref5_letter: function 69 -/
def deadboltref5_letter.f (a0 : Int) : Option (Bool) := if a0 ≥ 97 then (some (decide (a0 ≤ 122))) else (some false)
set_option maxHeartbeats 8000000 in
set_option maxRecDepth 100000 in
theorem deadboltref5_letter.calls (a0 : Int) (r : Bool) (w : World) (h : deadboltref5_letter.f a0 = some r) :
  Calls Tryd.prog 69 #[.int .u8 a0] w fun e w'=>e = .returned (.bool r) ∧ Drawn0 w w':=by
 have H : (if a0 ≥ 97 then (some (decide (a0 ≤ 122))) else (some false)) = some r:=h;clear h;by_cases c2 : a0 ≥ 97
 ·rw [if_pos c2] at H;have c2b0 : decide (97 ≤ a0) = true:=decide_eq_true c2;clear c2;obtain rfl:=Option.some.inj H;go_enter Tryd.func69,Tryd.ntmps69
  go_wp2
  go_ret
  exact ⟨by first | rfl | (simp; done) | (simp [*]; done),by repeat (first | exact Drawn0.refl _ | apply Drawn0.step)⟩
 ·rw [if_neg c2] at H;have c2b0 : decide (97 ≤ a0) = false:=decide_eq_false c2;clear c2;obtain rfl:=Option.some.inj H;go_enter Tryd.func69,Tryd.ntmps69
  go_wp2
  go_ret
  exact ⟨by first | rfl | (simp; done) | (simp [*]; done),by repeat (first | exact Drawn0.refl _ | apply Drawn0.step)⟩

/-! ### deadboltref5_digit: function 70 -/
def deadboltref5_digit.f (a0 : Int) : Option (Bool) := if a0 ≥ 48 then (some (decide (a0 ≤ 57))) else (some false)
set_option maxHeartbeats 8000000 in
set_option maxRecDepth 100000 in
theorem deadboltref5_digit.calls (a0 : Int) (r : Bool) (w : World) (h : deadboltref5_digit.f a0 = some r) :
  Calls Tryd.prog 70 #[.int .u8 a0] w fun e w'=>e = .returned (.bool r) ∧ Drawn0 w w':=by
 have H : (if a0 ≥ 48 then (some (decide (a0 ≤ 57))) else (some false)) = some r:=h;clear h;by_cases c2 : a0 ≥ 48
 ·rw [if_pos c2] at H;have c2b0 : decide (48 ≤ a0) = true:=decide_eq_true c2;clear c2;obtain rfl:=Option.some.inj H;go_enter Tryd.func70,Tryd.ntmps70
  go_wp2
  go_ret
  exact ⟨by first | rfl | (simp; done) | (simp [*]; done),by repeat (first | exact Drawn0.refl _ | apply Drawn0.step)⟩
 ·rw [if_neg c2] at H;have c2b0 : decide (48 ≤ a0) = false:=decide_eq_false c2;clear c2;obtain rfl:=Option.some.inj H;go_enter Tryd.func70,Tryd.ntmps70
  go_wp2
  go_ret
  exact ⟨by first | rfl | (simp; done) | (simp [*]; done),by repeat (first | exact Drawn0.refl _ | apply Drawn0.step)⟩

end Go.Proofs.YtkmafndljelopaaDoor.Q
