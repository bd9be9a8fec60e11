-- written by wip/xprint.py (over the kit's print.py) out of the translation. Not trusted: Lean checks it.
import Derived.Test.YtcabcedlnikbaaaDoorQ0
import Derived.Test.YtcabcedlnikbaaaDoorQ2
import Derived.Test.YtcabcedlnikbaaaDoorQ4
import Derived.Test.YtcabcedlnikbaaaDoorLexTok
namespace Go.Proofs.YtcabcedlnikbaaaDoor.Q
open Go.RowKit Go.Proofs.YtcabcedlnikbaaaDoorW.PrintWords Go.Proofs.YtcabcedlnikbaaaDoorW.PrintLast Go.Proofs.YtcabcedlnikbaaaDoorW.PrintMore
attribute [local go_sem] max2_int min2_int max_two min_two max_three min_three max_four min_four   -- for this text's walks alone
set_option linter.unusedVariables false
set_option linter.unusedSimpArgs false

/-! ### deadboltlaw5_LexAgain: function 5 -/
mutual
def deadboltlaw5_LexAgain.l0 : Nat → ByteArray → List (S39) → ByteArray → Int → Int → Option (Bool)
  | 0, _, _, _, _, _ => none
  | k + 1, x3, x4, x7, x8, x9 => if x9 < (x4.length : Int) then (if 0 ≤ x9 then (if ((rd_T39 x4 x9).f0) = 2 then (if ((rd_T39 x4 x9).f1) < x8 then (some false) else (if (wrap64 (((rd_T39 x4 x9).f1) + 1)) > (x3.size : Int) then (some false) else (if 0 ≤ ((rd_T39 x4 x9).f1) then (if ((rd_T39 x4 x9).f1) ≤ (wrap64 (((rd_T39 x4 x9).f1) + 1)) then (if (wrap64 (((rd_T39 x4 x9).f1) + 1)) ≤ (x3.size : Int) then (if (x3.extract (((rd_T39 x4 x9).f1) : Int).toNat ((wrap64 (((rd_T39 x4 x9).f1) + 1)) : Int).toNat).toList = ([123] : List UInt8) then (if ([123] : List UInt8) = ([] : List UInt8) then (some false) else (if x7.size + 1 ≤ 9223372036854775807 then (if (x7 ++ (⟨#[32]⟩ : ByteArray)).size + 1 ≤ 9223372036854775807 then (deadboltlaw5_LexAgain.l0 k x3 x4 ((x7 ++ (⟨#[32]⟩ : ByteArray)) ++ (⟨#[123]⟩ : ByteArray)) (wrap64 (((rd_T39 x4 x9).f1) + 1)) (wrap64 (x9 + 1))) else (none)) else (none))) else (some false)) else (none)) else (none)) else (none)))) else (if ((rd_T39 x4 x9).f0) = 3 then (if ((rd_T39 x4 x9).f1) < x8 then (some false) else (if (wrap64 (((rd_T39 x4 x9).f1) + 1)) > (x3.size : Int) then (some false) else (if 0 ≤ ((rd_T39 x4 x9).f1) then (if ((rd_T39 x4 x9).f1) ≤ (wrap64 (((rd_T39 x4 x9).f1) + 1)) then (if (wrap64 (((rd_T39 x4 x9).f1) + 1)) ≤ (x3.size : Int) then (if (x3.extract (((rd_T39 x4 x9).f1) : Int).toNat ((wrap64 (((rd_T39 x4 x9).f1) + 1)) : Int).toNat).toList = ([125] : List UInt8) then (if ([125] : List UInt8) = ([] : List UInt8) then (some false) else (if x7.size + 1 ≤ 9223372036854775807 then (if (x7 ++ (⟨#[32]⟩ : ByteArray)).size + 1 ≤ 9223372036854775807 then (deadboltlaw5_LexAgain.l0 k x3 x4 ((x7 ++ (⟨#[32]⟩ : ByteArray)) ++ (⟨#[125]⟩ : ByteArray)) (wrap64 (((rd_T39 x4 x9).f1) + 1)) (wrap64 (x9 + 1))) else (none)) else (none))) else (some false)) else (none)) else (none)) else (none)))) else (if ((rd_T39 x4 x9).f1) < x8 then (some false) else (if (wrap64 (((rd_T39 x4 x9).f1) + (((rd_T39 x4 x9).f2).size : Int))) > (x3.size : Int) then (some false) else (if 0 ≤ ((rd_T39 x4 x9).f1) then (if ((rd_T39 x4 x9).f1) ≤ (wrap64 (((rd_T39 x4 x9).f1) + (((rd_T39 x4 x9).f2).size : Int))) then (if (wrap64 (((rd_T39 x4 x9).f1) + (((rd_T39 x4 x9).f2).size : Int))) ≤ (x3.size : Int) then (if (x3.extract (((rd_T39 x4 x9).f1) : Int).toNat ((wrap64 (((rd_T39 x4 x9).f1) + (((rd_T39 x4 x9).f2).size : Int))) : Int).toNat).toList = ((rd_T39 x4 x9).f2).toList then (if ((rd_T39 x4 x9).f2).toList = ([] : List UInt8) then (some false) else (if x7.size + 1 ≤ 9223372036854775807 then (if (x7 ++ (⟨#[32]⟩ : ByteArray)).size + ((rd_T39 x4 x9).f2).size ≤ 9223372036854775807 then (deadboltlaw5_LexAgain.l0 k x3 x4 ((x7 ++ (⟨#[32]⟩ : ByteArray)) ++ ((rd_T39 x4 x9).f2)) (wrap64 (((rd_T39 x4 x9).f1) + (((rd_T39 x4 x9).f2).size : Int))) (wrap64 (x9 + 1))) else (none)) else (none))) else (some false)) else (none)) else (none)) else (none)))))) else (none)) else (if (x7.size : Int) > 2000 then (some true) else ((lex_Tokens.f x7).bind fun bt207 => (if bt207.2.2 = 0 then (deadboltlaw5_LexAgain.j1 k x4 bt207.1 ((bt207.1.length : Int) != (x4.length : Int))) else (deadboltlaw5_LexAgain.j1 k x4 bt207.1 true))))
def deadboltlaw5_LexAgain.j1 : Nat → List (S39) → List (S39) → Bool → Option (Bool)
  | 0, _, _, _ => none
  | k + 1, x4, x11, x122 => if x122 = true then (some false) else (deadboltlaw5_LexAgain.l1 k x4 x11 0)
def deadboltlaw5_LexAgain.l1 : Nat → List (S39) → List (S39) → Int → Option (Bool)
  | 0, _, _, _ => none
  | k + 1, x4, x11, x14 => if x14 < (x11.length : Int) then (if 0 ≤ x14 then (if x14 < (x4.length : Int) then (if ((rd_T39 x11 x14).f0) = ((rd_T39 x4 x14).f0) then (if ((rd_T39 x11 x14).f2).toList = ((rd_T39 x4 x14).f2).toList then (deadboltlaw5_LexAgain.l1 k x4 x11 (wrap64 (x14 + 1))) else (some false)) else (some false)) else (none)) else (none)) else (some true)
end
def deadboltlaw5_LexAgain.f (k : Nat) (l0 : List Int) : Option (Bool) := (deadboltlaw5_known.f).bind fun t183 => (if t183 = true then ((deadboltlaw5_Text.f k l0).bind fun t184 => ((lex_Tokens.f t184).bind fun bt185 => (if bt185.2.2 = 0 then (deadboltlaw5_LexAgain.l0 k t184 bt185.1 (⟨#[]⟩ : ByteArray) 0 0) else (some ((bt185.1.length : Int) == 0))))) else (some false))
theorem deadboltlaw5_LexAgain.mono_l : ∀ k, (∀ y0 y1 y2 y3 y4, LeO (deadboltlaw5_LexAgain.l0 k y0 y1 y2 y3 y4) (deadboltlaw5_LexAgain.l0 (k + 1) y0 y1 y2 y3 y4)) ∧ (∀ y0 y1 y2, LeO (deadboltlaw5_LexAgain.j1 k y0 y1 y2) (deadboltlaw5_LexAgain.j1 (k + 1) y0 y1 y2)) ∧ (∀ y0 y1 y2, LeO (deadboltlaw5_LexAgain.l1 k y0 y1 y2) (deadboltlaw5_LexAgain.l1 (k + 1) y0 y1 y2))
  | 0 => ⟨fun _ _ _ _ _ r h => by simp [deadboltlaw5_LexAgain.l0] at h, fun _ _ _ r h => by simp [deadboltlaw5_LexAgain.j1] at h, fun _ _ _ r h => by simp [deadboltlaw5_LexAgain.l1] at h⟩
  | k + 1 => by
    obtain ⟨ih0, ih1, ih2⟩ := deadboltlaw5_LexAgain.mono_l k
    refine ⟨?_, ?_, ?_⟩
    · intro y0 y1 y2 y3 y4
      unfold deadboltlaw5_LexAgain.l0
      repeat' first
      | (with_reducible exact ih0 _ _ _ _ _)
      | (with_reducible exact ih1 _ _ _)
      | (with_reducible exact ih2 _ _ _)
      | (with_reducible exact deadboltlaw5_Text.mono _ _)
      | (with_reducible exact LeO.refl _)
      | (with_reducible exact LeO.none _)
      | (with_reducible refine LeO.ite ?_ ?_)
      | (with_reducible refine LeO.bind ?_ (fun _ => ?_))
      | exact ih0 _ _ _ _ _
      | exact ih1 _ _ _
      | exact ih2 _ _ _
      | exact deadboltlaw5_Text.mono _ _
      | exact LeO.none _
      | refine LeO.ite ?_ ?_
      | refine LeO.bind ?_ (fun _ => ?_)
    · intro y0 y1 y2
      unfold deadboltlaw5_LexAgain.j1
      repeat' first
      | (with_reducible exact ih0 _ _ _ _ _)
      | (with_reducible exact ih1 _ _ _)
      | (with_reducible exact ih2 _ _ _)
      | (with_reducible exact deadboltlaw5_Text.mono _ _)
      | (with_reducible exact LeO.refl _)
      | (with_reducible exact LeO.none _)
      | (with_reducible refine LeO.ite ?_ ?_)
      | (with_reducible refine LeO.bind ?_ (fun _ => ?_))
      | exact ih0 _ _ _ _ _
      | exact ih1 _ _ _
      | exact ih2 _ _ _
      | exact deadboltlaw5_Text.mono _ _
      | exact LeO.none _
      | refine LeO.ite ?_ ?_
      | refine LeO.bind ?_ (fun _ => ?_)
    · intro y0 y1 y2
      unfold deadboltlaw5_LexAgain.l1
      repeat' first
      | (with_reducible exact ih0 _ _ _ _ _)
      | (with_reducible exact ih1 _ _ _)
      | (with_reducible exact ih2 _ _ _)
      | (with_reducible exact deadboltlaw5_Text.mono _ _)
      | (with_reducible exact LeO.refl _)
      | (with_reducible exact LeO.none _)
      | (with_reducible refine LeO.ite ?_ ?_)
      | (with_reducible refine LeO.bind ?_ (fun _ => ?_))
      | exact ih0 _ _ _ _ _
      | exact ih1 _ _ _
      | exact ih2 _ _ _
      | exact deadboltlaw5_Text.mono _ _
      | exact LeO.none _
      | refine LeO.ite ?_ ?_
      | refine LeO.bind ?_ (fun _ => ?_)
theorem deadboltlaw5_LexAgain.mono : ∀ a0 k, LeO (deadboltlaw5_LexAgain.f k a0) (deadboltlaw5_LexAgain.f (k + 1) a0) := by
  intro a0 k
  obtain ⟨ih0, ih1, ih2⟩ := deadboltlaw5_LexAgain.mono_l k
  unfold deadboltlaw5_LexAgain.f
  repeat' first
      | (with_reducible exact ih0 _ _ _ _ _)
      | (with_reducible exact ih1 _ _ _)
      | (with_reducible exact ih2 _ _ _)
      | (with_reducible exact deadboltlaw5_Text.mono _ _)
      | (with_reducible exact LeO.refl _)
      | (with_reducible exact LeO.none _)
      | (with_reducible refine LeO.ite ?_ ?_)
      | (with_reducible refine LeO.bind ?_ (fun _ => ?_))
      | exact ih0 _ _ _ _ _
      | exact ih1 _ _ _
      | exact ih2 _ _ _
      | exact deadboltlaw5_Text.mono _ _
      | exact LeO.none _
      | refine LeO.ite ?_ ?_
      | refine LeO.bind ?_ (fun _ => ?_)
set_option maxHeartbeats 8000000 in
set_option maxRecDepth 100000 in
theorem deadboltlaw5_LexAgain.calls (k : Nat) (A0 : Option Addr) (c0 : Nat) (l0 : List Int) (r : Bool) (w : World) (hr0 : Kd.C (Kd.int .i64) w A0 l0.length l0) (hc0 : l0.length ≤ c0) (h : deadboltlaw5_LexAgain.f k l0 = some r) (hG : GL w) :
    Calls Tryd.prog 5 #[.slice A0 l0.length c0] w fun e w' => e = .returned (.bool r) ∧ Below w.heap.size w w' := by
  have HG := Aside0.mk hG
  clear hG
  have HR0 := Aside0.mk hr0
  have HC0 := Aside0.mk hc0
  clear hr0 hc0
  have HB := Aside0.mk (Below.refl w.heap.size w)
  have H : ((deadboltlaw5_known.f).bind fun t183 => (if t183 = true then ((deadboltlaw5_Text.f k l0).bind fun t184 => ((lex_Tokens.f t184).bind fun bt185 => (if bt185.2.2 = 0 then (deadboltlaw5_LexAgain.l0 k t184 bt185.1 (⟨#[]⟩ : ByteArray) 0 0) else (some ((bt185.1.length : Int) == 0))))) else (some false))) = some r := h
  clear h
  replace H := Option.bind_eq_some_iff.mp H
  obtain ⟨t183, A20, H⟩ := H
  replace H : (if t183 = true then ((deadboltlaw5_Text.f k l0).bind fun t184 => ((lex_Tokens.f t184).bind fun bt185 => (if bt185.2.2 = 0 then (deadboltlaw5_LexAgain.l0 k t184 bt185.1 (⟨#[]⟩ : ByteArray) 0 0) else (some ((bt185.1.length : Int) == 0))))) else (some false)) = some r := H
  have A2 := Aside0.mk A20
  clear A20
  by_cases c3 : t183 = true
  · subst c3
    have H1 : ((deadboltlaw5_Text.f k l0).bind fun t184 => ((lex_Tokens.f t184).bind fun bt185 => (if bt185.2.2 = 0 then (deadboltlaw5_LexAgain.l0 k t184 bt185.1 (⟨#[]⟩ : ByteArray) 0 0) else (some ((bt185.1.length : Int) == 0))))) = some r := by rw [if_pos rfl] at H; exact H
    clear H
    have H := H1
    clear H1
    replace H := Option.bind_eq_some_iff.mp H
    obtain ⟨t184, A40, H⟩ := H
    replace H : ((lex_Tokens.f t184).bind fun bt185 => (if bt185.2.2 = 0 then (deadboltlaw5_LexAgain.l0 k t184 bt185.1 (⟨#[]⟩ : ByteArray) 0 0) else (some ((bt185.1.length : Int) == 0)))) = some r := H
    have A4 := Aside0.mk A40
    clear A40
    replace H := Option.bind_eq_some_iff.mp H
    obtain ⟨⟨t185, t186, t187⟩, A50, H⟩ := H
    replace H : (if t187 = 0 then (deadboltlaw5_LexAgain.l0 k t184 t185 (⟨#[]⟩ : ByteArray) 0 0) else (some ((t185.length : Int) == 0))) = some r := H
    have A5 := Aside0.mk A50
    clear A50
    by_cases c6 : t187 = 0
    · rw [if_pos c6] at H
      have c6b0 : (t187 == 0) = true := beq_iff_eq.mpr c6
      have c6b1 : (t187 != 0) = false := bne_eq_false_iff_eq.mpr c6
      clear c6
      have H' := Aside0.mk H
      clear H
      go_enter Tryd.func5, Tryd.ntmps5
      go_wp2_with (first | (go_at_call 9; (with_reducible refine (deadboltlaw5_known.calls  true _ A2.out (by first | exact HG.out | exact GL.drewN HG.out _ | exact GL.drewN (GL.drewN HG.out _) _ | exact GL.of_below HG.out (by repeat (first | (with_reducible first | exact HB.out | apply below_alloc | apply pw_below_drewN | apply below_drew1) | exact HB.out)))).mono ?_); rintro e w7 ⟨rfl, hb⟩; have n0_ := Aside0.mk (below_step (by repeat (first | (with_reducible first | exact HB.out | apply below_alloc | apply pw_below_drewN | apply below_drew1) | exact HB.out)) hb); clear HB; have HB := n0_; clear n0_; (try clear hb); (try clear hb2); (try clear hk); (try clear hi)) | (go_at_call 11; (with_reducible refine (deadboltlaw5_Text.calls k _ _ l0 t184 _ ?side1 ?side2 A4.out).mono ?_); (case side1 => repeat (first | exact (Kd.C_below HR0.out HB.out) | (with_reducible refine Kd.C_alloc ?_ _) | (with_reducible refine Kd.C_drewN ?_ _) | (with_reducible refine Kd.C_drew ?_))); (case side2 => exact HC0.out); rintro e w8 ⟨rfl, hb⟩; have n0_ := Aside0.mk (below_step (by repeat (first | (with_reducible first | exact HB.out | apply below_alloc | apply pw_below_drewN | apply below_drew1) | exact HB.out)) hb); clear HB; have HB := n0_; clear n0_; (try clear hb); (try clear hb2); (try clear hk); (try clear hi)) | (go_at_call 12; (with_reducible refine (lex_Tokens.calls t184 t185 t186 t187 _ A5.out).mono ?_); rintro e w9 ⟨v188, rfl, ho0, hb⟩; have n0_ := Aside0.mk (Kd.R_lower ho0 (below_size (by repeat (first | (with_reducible first | exact HB.out | apply below_alloc | apply pw_below_drewN | apply below_drew1) | exact HB.out)))); have n1_ := Aside0.mk (below_step (by repeat (first | (with_reducible first | exact HB.out | apply below_alloc | apply pw_below_drewN | apply below_drew1) | exact HB.out)) hb); clear HB; have HO189 := n0_; have HB := n1_; clear n0_ n1_; (try clear hb); (try clear hb2); (try clear hk); (try clear hi); (try clear ho0)))
      repeat (go_quiet (first | (go_at_call 9; (with_reducible refine (deadboltlaw5_known.calls  true _ A2.out (by first | exact HG.out | exact GL.drewN HG.out _ | exact GL.drewN (GL.drewN HG.out _) _ | exact GL.of_below HG.out (by repeat (first | (with_reducible first | exact HB.out | apply below_alloc | apply pw_below_drewN | apply below_drew1) | exact HB.out)))).mono ?_); rintro e w7 ⟨rfl, hb⟩; have n0_ := Aside0.mk (below_step (by repeat (first | (with_reducible first | exact HB.out | apply below_alloc | apply pw_below_drewN | apply below_drew1) | exact HB.out)) hb); clear HB; have HB := n0_; clear n0_; (try clear hb); (try clear hb2); (try clear hk); (try clear hi)) | (go_at_call 11; (with_reducible refine (deadboltlaw5_Text.calls k _ _ l0 t184 _ ?side1 ?side2 A4.out).mono ?_); (case side1 => repeat (first | exact (Kd.C_below HR0.out HB.out) | (with_reducible refine Kd.C_alloc ?_ _) | (with_reducible refine Kd.C_drewN ?_ _) | (with_reducible refine Kd.C_drew ?_))); (case side2 => exact HC0.out); rintro e w8 ⟨rfl, hb⟩; have n0_ := Aside0.mk (below_step (by repeat (first | (with_reducible first | exact HB.out | apply below_alloc | apply pw_below_drewN | apply below_drew1) | exact HB.out)) hb); clear HB; have HB := n0_; clear n0_; (try clear hb); (try clear hb2); (try clear hk); (try clear hi)) | (go_at_call 12; (with_reducible refine (lex_Tokens.calls t184 t185 t186 t187 _ A5.out).mono ?_); rintro e w9 ⟨v188, rfl, ho0, hb⟩; have n0_ := Aside0.mk (Kd.R_lower ho0 (below_size (by repeat (first | (with_reducible first | exact HB.out | apply below_alloc | apply pw_below_drewN | apply below_drew1) | exact HB.out)))); have n1_ := Aside0.mk (below_step (by repeat (first | (with_reducible first | exact HB.out | apply below_alloc | apply pw_below_drewN | apply below_drew1) | exact HB.out)) hb); clear HB; have HO189 := n0_; have HB := n1_; clear n0_ n1_; (try clear hb); (try clear hb2); (try clear hk); (try clear hi); (try clear ho0))); try go_wp2_with (first | (go_at_call 9; (with_reducible refine (deadboltlaw5_known.calls  true _ A2.out (by first | exact HG.out | exact GL.drewN HG.out _ | exact GL.drewN (GL.drewN HG.out _) _ | exact GL.of_below HG.out (by repeat (first | (with_reducible first | exact HB.out | apply below_alloc | apply pw_below_drewN | apply below_drew1) | exact HB.out)))).mono ?_); rintro e w7 ⟨rfl, hb⟩; have n0_ := Aside0.mk (below_step (by repeat (first | (with_reducible first | exact HB.out | apply below_alloc | apply pw_below_drewN | apply below_drew1) | exact HB.out)) hb); clear HB; have HB := n0_; clear n0_; (try clear hb); (try clear hb2); (try clear hk); (try clear hi)) | (go_at_call 11; (with_reducible refine (deadboltlaw5_Text.calls k _ _ l0 t184 _ ?side1 ?side2 A4.out).mono ?_); (case side1 => repeat (first | exact (Kd.C_below HR0.out HB.out) | (with_reducible refine Kd.C_alloc ?_ _) | (with_reducible refine Kd.C_drewN ?_ _) | (with_reducible refine Kd.C_drew ?_))); (case side2 => exact HC0.out); rintro e w8 ⟨rfl, hb⟩; have n0_ := Aside0.mk (below_step (by repeat (first | (with_reducible first | exact HB.out | apply below_alloc | apply pw_below_drewN | apply below_drew1) | exact HB.out)) hb); clear HB; have HB := n0_; clear n0_; (try clear hb); (try clear hb2); (try clear hk); (try clear hi)) | (go_at_call 12; (with_reducible refine (lex_Tokens.calls t184 t185 t186 t187 _ A5.out).mono ?_); rintro e w9 ⟨v188, rfl, ho0, hb⟩; have n0_ := Aside0.mk (Kd.R_lower ho0 (below_size (by repeat (first | (with_reducible first | exact HB.out | apply below_alloc | apply pw_below_drewN | apply below_drew1) | exact HB.out)))); have n1_ := Aside0.mk (below_step (by repeat (first | (with_reducible first | exact HB.out | apply below_alloc | apply pw_below_drewN | apply below_drew1) | exact HB.out)) hb); clear HB; have HO189 := n0_; have HB := n1_; clear n0_ n1_; (try clear hb); (try clear hb2); (try clear hk); (try clear hi); (try clear ho0))))
      go_loopg [7, 8, 9] k (fun kq v7 v8 v9 w' => ∃ (x7_1 : ByteArray) (x8_1 : Int) (x9_1 : Int), v7 = .string x7_1 ∧ v8 = .int .i64 x8_1 ∧ v9 = .int .i64 x9_1 ∧ Aside0 (deadboltlaw5_LexAgain.l0 kq t184 t185 x7_1 x8_1 x9_1 = some r) ∧ Aside0 (kq ≤ k) ∧ Aside0 (Kd.R k39 39 w' w.heap.size (fun _ => True) v188 t185) ∧ Aside0 (Below w.heap.size w w'))
      case atStart => exact ⟨((⟨#[]⟩ : ByteArray)), (0), (0), (by first | rfl | (simp; done) | (simp [*]; done)), (by first | rfl | (simp; done) | (simp [*]; done)), (by first | rfl | (simp; done) | (simp [*]; done)), H', ⟨Nat.le_refl _⟩, ⟨by (with_reducible repeat (first | apply Kd.R_alloc | apply Kd.R_drewN | apply Kd.R_drew)); exact HO189.out⟩, ⟨by repeat (first | (with_reducible first | exact HB.out | apply below_alloc | apply pw_below_drewN | apply below_drew1) | exact HB.out)⟩⟩
      case round =>
        clear H'
        try clear p2
        try clear c3
        try clear c5
        try clear c6
        try clear c6b0
        try clear c6b1
        obtain ⟨x7_1, x8_1, x9_1, rfl, rfl, rfl, HA, HK1, HO_4, HB⟩ := hrel
        cases gk with
        | zero => exact absurd HA.out (by simp [deadboltlaw5_LexAgain.l0])
        | succ k1 =>
          have H := HA.out
          clear HA
          simp only [deadboltlaw5_LexAgain.l0] at H
          by_cases c10 : x9_1 < (t185.length : Int)
          · rw [if_pos c10] at H
            have c10b0 : decide (x9_1 < (t185.length : Int)) = true := decide_eq_true c10
            clear c10
            by_cases c11 : 0 ≤ x9_1
            · rw [if_pos c11] at H
              have c11b0 : decide (0 ≤ x9_1) = true := decide_eq_true c11
              clear c11
              by_cases c12 : ((rd_T39 t185 x9_1).f0) = 2
              · rw [if_pos c12] at H
                have c12b0 : (((rd_T39 t185 x9_1).f0) == 2) = true := beq_iff_eq.mpr c12
                have c12b1 : (((rd_T39 t185 x9_1).f0) != 2) = false := bne_eq_false_iff_eq.mpr c12
                clear c12
                by_cases c13 : ((rd_T39 t185 x9_1).f1) < x8_1
                · rw [if_pos c13] at H
                  have c13b0 : decide (((rd_T39 t185 x9_1).f1) < x8_1) = true := decide_eq_true c13
                  clear c13
                  obtain rfl := Option.some.inj H
                  obtain ⟨Ao14, co14, eo14⟩ := Kd.R_slice HO_4.out
                  subst eo14
                  have p190 : 0 ≤ (x9_1 : Int) := of_decide_eq_true (by first | (with_reducible assumption) | assumption)
                  have q190 : x9_1 < (t185.length : Int) := of_decide_eq_true (by first | (with_reducible assumption) | assumption)
                  obtain ⟨ad190, e190, hx190_0, hx190_1, hx190_2⟩ := at_T39 (Kd.R_reads' HO_4.out).2.2 x9_1 p190 q190
                  cases e190
                  replace p190 := eq_true p190
                  replace q190 := eq_true q190
                  have p191 : 0 ≤ (x9_1 : Int) := of_decide_eq_true (by first | (with_reducible assumption) | assumption)
                  have q191 : x9_1 < (t185.length : Int) := of_decide_eq_true (by first | (with_reducible assumption) | assumption)
                  obtain ⟨ad191, e191, hx191_0, hx191_1, hx191_2⟩ := at_T39 (Kd.R_reads' HO_4.out).2.2 x9_1 p191 q191
                  obtain rfl : ad190 = ad191 := (by injection e191)
                  replace p191 := eq_true p191
                  replace q191 := eq_true q191
                  have p192 : 0 ≤ (x9_1 : Int) := of_decide_eq_true (by first | (with_reducible assumption) | assumption)
                  have q192 : x9_1 < (t185.length : Int) := of_decide_eq_true (by first | (with_reducible assumption) | assumption)
                  obtain ⟨ad192, e192, hx192_0, hx192_1, hx192_2⟩ := at_T39 (Kd.R_reads' HO_4.out).2.2 x9_1 p192 q192
                  obtain rfl : ad190 = ad192 := (by injection e192)
                  replace p192 := eq_true p192
                  replace q192 := eq_true q192
                  go_wp2
                  repeat (go_quiet (fail); try go_wp2)
                  go_ret
                  exact ⟨by first | rfl | (simp [errW_none, errW_some] <;> rfl) | (simp [*, errW_none, errW_some] <;> rfl), by repeat (first | (with_reducible first | exact HB.out | apply below_alloc | apply pw_below_drewN | apply below_drew1) | exact HB.out)⟩
                · rw [if_neg c13] at H
                  have c13b0 : decide (((rd_T39 t185 x9_1).f1) < x8_1) = false := decide_eq_false c13
                  clear c13
                  by_cases c15 : (wrap64 (((rd_T39 t185 x9_1).f1) + 1)) > (t184.size : Int)
                  · rw [if_pos c15] at H
                    have c15b0 : decide ((t184.size : Int) < (wrap64 (((rd_T39 t185 x9_1).f1) + 1))) = true := decide_eq_true c15
                    (try (have c15u0_0 : decide ((t184.size : Int) < ((((rd_T39 t185 x9_1).f1) + 1))) = true := by have h_ := c15b0; rwa [show wrap64 (((rd_T39 t185 x9_1).f1) + 1) = (((rd_T39 t185 x9_1).f1) + 1) from by unfold wrap64; omega] at h_))
                    clear c15
                    obtain rfl := Option.some.inj H
                    obtain ⟨Ao16, co16, eo16⟩ := Kd.R_slice HO_4.out
                    subst eo16
                    have p190 : 0 ≤ (x9_1 : Int) := of_decide_eq_true (by first | (with_reducible assumption) | assumption)
                    have q190 : x9_1 < (t185.length : Int) := of_decide_eq_true (by first | (with_reducible assumption) | assumption)
                    obtain ⟨ad190, e190, hx190_0, hx190_1, hx190_2⟩ := at_T39 (Kd.R_reads' HO_4.out).2.2 x9_1 p190 q190
                    cases e190
                    replace p190 := eq_true p190
                    replace q190 := eq_true q190
                    have p191 : 0 ≤ (x9_1 : Int) := of_decide_eq_true (by first | (with_reducible assumption) | assumption)
                    have q191 : x9_1 < (t185.length : Int) := of_decide_eq_true (by first | (with_reducible assumption) | assumption)
                    obtain ⟨ad191, e191, hx191_0, hx191_1, hx191_2⟩ := at_T39 (Kd.R_reads' HO_4.out).2.2 x9_1 p191 q191
                    obtain rfl : ad190 = ad191 := (by injection e191)
                    replace p191 := eq_true p191
                    replace q191 := eq_true q191
                    have p192 : 0 ≤ (x9_1 : Int) := of_decide_eq_true (by first | (with_reducible assumption) | assumption)
                    have q192 : x9_1 < (t185.length : Int) := of_decide_eq_true (by first | (with_reducible assumption) | assumption)
                    obtain ⟨ad192, e192, hx192_0, hx192_1, hx192_2⟩ := at_T39 (Kd.R_reads' HO_4.out).2.2 x9_1 p192 q192
                    obtain rfl : ad190 = ad192 := (by injection e192)
                    replace p192 := eq_true p192
                    replace q192 := eq_true q192
                    have p193 : 0 ≤ (x9_1 : Int) := of_decide_eq_true (by first | (with_reducible assumption) | assumption)
                    have q193 : x9_1 < (t185.length : Int) := of_decide_eq_true (by first | (with_reducible assumption) | assumption)
                    obtain ⟨ad193, e193, hx193_0, hx193_1, hx193_2⟩ := at_T39 (Kd.R_reads' HO_4.out).2.2 x9_1 p193 q193
                    obtain rfl : ad190 = ad193 := (by injection e193)
                    replace p193 := eq_true p193
                    replace q193 := eq_true q193
                    go_wp2
                    repeat (go_quiet (fail); try go_wp2)
                    go_ret
                    exact ⟨by first | rfl | (simp [errW_none, errW_some] <;> rfl) | (simp [*, errW_none, errW_some] <;> rfl), by repeat (first | (with_reducible first | exact HB.out | apply below_alloc | apply pw_below_drewN | apply below_drew1) | exact HB.out)⟩
                  · rw [if_neg c15] at H
                    have c15b0 : decide ((t184.size : Int) < (wrap64 (((rd_T39 t185 x9_1).f1) + 1))) = false := decide_eq_false c15
                    (try (have c15u0_0 : decide ((t184.size : Int) < ((((rd_T39 t185 x9_1).f1) + 1))) = false := by have h_ := c15b0; rwa [show wrap64 (((rd_T39 t185 x9_1).f1) + 1) = (((rd_T39 t185 x9_1).f1) + 1) from by unfold wrap64; omega] at h_))
                    clear c15
                    by_cases c17 : 0 ≤ ((rd_T39 t185 x9_1).f1)
                    · rw [if_pos c17] at H
                      have c17b0 := eq_true c17
                      have c17b1 : decide (0 ≤ ((rd_T39 t185 x9_1).f1)) = true := decide_eq_true c17
                      clear c17
                      by_cases c18 : ((rd_T39 t185 x9_1).f1) ≤ (wrap64 (((rd_T39 t185 x9_1).f1) + 1))
                      · rw [if_pos c18] at H
                        have c18b0 := eq_true c18
                        have c18b1 : decide (((rd_T39 t185 x9_1).f1) ≤ (wrap64 (((rd_T39 t185 x9_1).f1) + 1))) = true := decide_eq_true c18
                        (try (have c18u1_0 : decide (((rd_T39 t185 x9_1).f1) ≤ ((((rd_T39 t185 x9_1).f1) + 1))) = true := by have h_ := c18b1; rwa [show wrap64 (((rd_T39 t185 x9_1).f1) + 1) = (((rd_T39 t185 x9_1).f1) + 1) from by unfold wrap64; omega] at h_))
                        by_cases c19 : (wrap64 (((rd_T39 t185 x9_1).f1) + 1)) ≤ (t184.size : Int)
                        · rw [if_pos c19] at H
                          have c19b0 := eq_true c19
                          have c19b1 : decide ((wrap64 (((rd_T39 t185 x9_1).f1) + 1)) ≤ (t184.size : Int)) = true := decide_eq_true c19
                          (try (have c19u1_0 : decide (((((rd_T39 t185 x9_1).f1) + 1)) ≤ (t184.size : Int)) = true := by have h_ := c19b1; rwa [show wrap64 (((rd_T39 t185 x9_1).f1) + 1) = (((rd_T39 t185 x9_1).f1) + 1) from by unfold wrap64; omega] at h_))
                          by_cases c20 : (t184.extract (((rd_T39 t185 x9_1).f1) : Int).toNat ((wrap64 (((rd_T39 t185 x9_1).f1) + 1)) : Int).toNat).toList = ([123] : List UInt8)
                          · rw [if_pos c20] at H
                            have c20b0 : ((t184.extract (((rd_T39 t185 x9_1).f1) : Int).toNat ((wrap64 (((rd_T39 t185 x9_1).f1) + 1)) : Int).toNat).toList == ([123] : List UInt8)) = true := beq_iff_eq.mpr c20
                            (try (have c20u0_0 : ((t184.extract (((rd_T39 t185 x9_1).f1) : Int).toNat (((((rd_T39 t185 x9_1).f1) + 1)) : Int).toNat).toList == ([123] : List UInt8)) = true := by have h_ := c20b0; rwa [show wrap64 (((rd_T39 t185 x9_1).f1) + 1) = (((rd_T39 t185 x9_1).f1) + 1) from by unfold wrap64; omega] at h_))
                            have c20b1 : ((t184.extract (((rd_T39 t185 x9_1).f1) : Int).toNat ((wrap64 (((rd_T39 t185 x9_1).f1) + 1)) : Int).toNat).toList != ([123] : List UInt8)) = false := bne_eq_false_iff_eq.mpr c20
                            (try (have c20u1_0 : ((t184.extract (((rd_T39 t185 x9_1).f1) : Int).toNat (((((rd_T39 t185 x9_1).f1) + 1)) : Int).toNat).toList != ([123] : List UInt8)) = false := by have h_ := c20b1; rwa [show wrap64 (((rd_T39 t185 x9_1).f1) + 1) = (((rd_T39 t185 x9_1).f1) + 1) from by unfold wrap64; omega] at h_))
                            clear c20
                            by_cases c21 : ([123] : List UInt8) = ([] : List UInt8)
                            · rw [if_pos c21] at H
                              have c21b0 : (([123] : List UInt8) == ([] : List UInt8)) = true := beq_iff_eq.mpr c21
                              (try (have c21e0 : (([123] : List UInt8).isEmpty) = true := by have h_ := c21b0; simp only [beq_nil_isEmpty] at h_; exact h_))
                              have c21b1 : (([123] : List UInt8) != ([] : List UInt8)) = false := bne_eq_false_iff_eq.mpr c21
                              clear c21
                              obtain rfl := Option.some.inj H
                              obtain ⟨Ao22, co22, eo22⟩ := Kd.R_slice HO_4.out
                              subst eo22
                              have p190 : 0 ≤ (x9_1 : Int) := of_decide_eq_true (by first | (with_reducible assumption) | assumption)
                              have q190 : x9_1 < (t185.length : Int) := of_decide_eq_true (by first | (with_reducible assumption) | assumption)
                              obtain ⟨ad190, e190, hx190_0, hx190_1, hx190_2⟩ := at_T39 (Kd.R_reads' HO_4.out).2.2 x9_1 p190 q190
                              cases e190
                              replace p190 := eq_true p190
                              replace q190 := eq_true q190
                              have p191 : 0 ≤ (x9_1 : Int) := of_decide_eq_true (by first | (with_reducible assumption) | assumption)
                              have q191 : x9_1 < (t185.length : Int) := of_decide_eq_true (by first | (with_reducible assumption) | assumption)
                              obtain ⟨ad191, e191, hx191_0, hx191_1, hx191_2⟩ := at_T39 (Kd.R_reads' HO_4.out).2.2 x9_1 p191 q191
                              obtain rfl : ad190 = ad191 := (by injection e191)
                              replace p191 := eq_true p191
                              replace q191 := eq_true q191
                              have p192 : 0 ≤ (x9_1 : Int) := of_decide_eq_true (by first | (with_reducible assumption) | assumption)
                              have q192 : x9_1 < (t185.length : Int) := of_decide_eq_true (by first | (with_reducible assumption) | assumption)
                              obtain ⟨ad192, e192, hx192_0, hx192_1, hx192_2⟩ := at_T39 (Kd.R_reads' HO_4.out).2.2 x9_1 p192 q192
                              obtain rfl : ad190 = ad192 := (by injection e192)
                              replace p192 := eq_true p192
                              replace q192 := eq_true q192
                              have p193 : 0 ≤ (x9_1 : Int) := of_decide_eq_true (by first | (with_reducible assumption) | assumption)
                              have q193 : x9_1 < (t185.length : Int) := of_decide_eq_true (by first | (with_reducible assumption) | assumption)
                              obtain ⟨ad193, e193, hx193_0, hx193_1, hx193_2⟩ := at_T39 (Kd.R_reads' HO_4.out).2.2 x9_1 p193 q193
                              obtain rfl : ad190 = ad193 := (by injection e193)
                              replace p193 := eq_true p193
                              replace q193 := eq_true q193
                              have p194 : 0 ≤ (x9_1 : Int) := of_decide_eq_true (by first | (with_reducible assumption) | assumption)
                              have q194 : x9_1 < (t185.length : Int) := of_decide_eq_true (by first | (with_reducible assumption) | assumption)
                              obtain ⟨ad194, e194, hx194_0, hx194_1, hx194_2⟩ := at_T39 (Kd.R_reads' HO_4.out).2.2 x9_1 p194 q194
                              obtain rfl : ad190 = ad194 := (by injection e194)
                              replace p194 := eq_true p194
                              replace q194 := eq_true q194
                              have p195 : 0 ≤ (x9_1 : Int) := of_decide_eq_true (by first | (with_reducible assumption) | assumption)
                              have q195 : x9_1 < (t185.length : Int) := of_decide_eq_true (by first | (with_reducible assumption) | assumption)
                              obtain ⟨ad195, e195, hx195_0, hx195_1, hx195_2⟩ := at_T39 (Kd.R_reads' HO_4.out).2.2 x9_1 p195 q195
                              obtain rfl : ad190 = ad195 := (by injection e195)
                              replace p195 := eq_true p195
                              replace q195 := eq_true q195
                              go_wp2
                              repeat (go_quiet (fail); try go_wp2)
                              go_ret
                              exact ⟨by first | rfl | (simp [errW_none, errW_some] <;> rfl) | (simp [*, errW_none, errW_some] <;> rfl), by repeat (first | (with_reducible first | exact HB.out | apply below_alloc | apply pw_below_drewN | apply below_drew1) | exact HB.out)⟩
                            · rw [if_neg c21] at H
                              have c21b0 : (([123] : List UInt8) == ([] : List UInt8)) = false := beq_eq_false_iff_ne.mpr c21
                              (try (have c21e0 : (([123] : List UInt8).isEmpty) = false := by have h_ := c21b0; simp only [beq_nil_isEmpty] at h_; exact h_))
                              have c21b1 : (([123] : List UInt8) != ([] : List UInt8)) = true := bne_iff_ne.mpr c21
                              by_cases c23 : x7_1.size + 1 ≤ 9223372036854775807
                              · rw [if_pos c23] at H
                                have c23b0 := eq_true c23
                                have c23b1 : decide (x7_1.size + 1 ≤ 9223372036854775807) = true := decide_eq_true c23
                                try have c23b2 : (9223372036854775807 < x7_1.size + 1) = False := eq_false (Nat.not_lt.2 c23)
                                by_cases c24 : (x7_1 ++ (⟨#[32]⟩ : ByteArray)).size + 1 ≤ 9223372036854775807
                                · rw [if_pos c24] at H
                                  have c24b0 := eq_true c24
                                  have c24b1 : decide ((x7_1 ++ (⟨#[32]⟩ : ByteArray)).size + 1 ≤ 9223372036854775807) = true := decide_eq_true c24
                                  (try (have c24t1 : decide (x7_1.size + 1 + 1 ≤ 9223372036854775807) = true := by have h_ := c24b1; simp only [ByteArray.size_append] at h_; exact h_))
                                  try have c24b2 : (9223372036854775807 < (x7_1 ++ (⟨#[32]⟩ : ByteArray)).size + 1) = False := eq_false (Nat.not_lt.2 c24)
                                  (try (have c24t2 : (9223372036854775807 < x7_1.size + 1 + 1) = False := by have h_ := c24b2; simp only [ByteArray.size_append] at h_; exact h_))
                                  have H' := Aside0.mk H
                                  clear H
                                  obtain ⟨Ao25, co25, eo25⟩ := Kd.R_slice HO_4.out
                                  subst eo25
                                  have p190 : 0 ≤ (x9_1 : Int) := of_decide_eq_true (by first | (with_reducible assumption) | assumption)
                                  have q190 : x9_1 < (t185.length : Int) := of_decide_eq_true (by first | (with_reducible assumption) | assumption)
                                  obtain ⟨ad190, e190, hx190_0, hx190_1, hx190_2⟩ := at_T39 (Kd.R_reads' HO_4.out).2.2 x9_1 p190 q190
                                  cases e190
                                  replace p190 := eq_true p190
                                  replace q190 := eq_true q190
                                  have p191 : 0 ≤ (x9_1 : Int) := of_decide_eq_true (by first | (with_reducible assumption) | assumption)
                                  have q191 : x9_1 < (t185.length : Int) := of_decide_eq_true (by first | (with_reducible assumption) | assumption)
                                  obtain ⟨ad191, e191, hx191_0, hx191_1, hx191_2⟩ := at_T39 (Kd.R_reads' HO_4.out).2.2 x9_1 p191 q191
                                  obtain rfl : ad190 = ad191 := (by injection e191)
                                  replace p191 := eq_true p191
                                  replace q191 := eq_true q191
                                  have p192 : 0 ≤ (x9_1 : Int) := of_decide_eq_true (by first | (with_reducible assumption) | assumption)
                                  have q192 : x9_1 < (t185.length : Int) := of_decide_eq_true (by first | (with_reducible assumption) | assumption)
                                  obtain ⟨ad192, e192, hx192_0, hx192_1, hx192_2⟩ := at_T39 (Kd.R_reads' HO_4.out).2.2 x9_1 p192 q192
                                  obtain rfl : ad190 = ad192 := (by injection e192)
                                  replace p192 := eq_true p192
                                  replace q192 := eq_true q192
                                  have p193 : 0 ≤ (x9_1 : Int) := of_decide_eq_true (by first | (with_reducible assumption) | assumption)
                                  have q193 : x9_1 < (t185.length : Int) := of_decide_eq_true (by first | (with_reducible assumption) | assumption)
                                  obtain ⟨ad193, e193, hx193_0, hx193_1, hx193_2⟩ := at_T39 (Kd.R_reads' HO_4.out).2.2 x9_1 p193 q193
                                  obtain rfl : ad190 = ad193 := (by injection e193)
                                  replace p193 := eq_true p193
                                  replace q193 := eq_true q193
                                  have p194 : 0 ≤ (x9_1 : Int) := of_decide_eq_true (by first | (with_reducible assumption) | assumption)
                                  have q194 : x9_1 < (t185.length : Int) := of_decide_eq_true (by first | (with_reducible assumption) | assumption)
                                  obtain ⟨ad194, e194, hx194_0, hx194_1, hx194_2⟩ := at_T39 (Kd.R_reads' HO_4.out).2.2 x9_1 p194 q194
                                  obtain rfl : ad190 = ad194 := (by injection e194)
                                  replace p194 := eq_true p194
                                  replace q194 := eq_true q194
                                  have p195 : 0 ≤ (x9_1 : Int) := of_decide_eq_true (by first | (with_reducible assumption) | assumption)
                                  have q195 : x9_1 < (t185.length : Int) := of_decide_eq_true (by first | (with_reducible assumption) | assumption)
                                  obtain ⟨ad195, e195, hx195_0, hx195_1, hx195_2⟩ := at_T39 (Kd.R_reads' HO_4.out).2.2 x9_1 p195 q195
                                  obtain rfl : ad190 = ad195 := (by injection e195)
                                  replace p195 := eq_true p195
                                  replace q195 := eq_true q195
                                  have p196 : 0 ≤ (x9_1 : Int) := of_decide_eq_true (by first | (with_reducible assumption) | assumption)
                                  have q196 : x9_1 < (t185.length : Int) := of_decide_eq_true (by first | (with_reducible assumption) | assumption)
                                  obtain ⟨ad196, e196, hx196_0, hx196_1, hx196_2⟩ := at_T39 (Kd.R_reads' HO_4.out).2.2 x9_1 p196 q196
                                  obtain rfl : ad190 = ad196 := (by injection e196)
                                  replace p196 := eq_true p196
                                  replace q196 := eq_true q196
                                  go_wp2
                                  repeat (go_quiet (fail); try go_wp2)
                                  go_roundg k1
                                  case measure => have := HK1.out; omega
                                  case rel => exact ⟨((x7_1 ++ (⟨#[32]⟩ : ByteArray)) ++ (⟨#[123]⟩ : ByteArray)), (wrap64 (((rd_T39 t185 x9_1).f1) + 1)), (wrap64 (x9_1 + 1)), (by first | rfl | (simp; done) | (simp [*]; done)), (by first | rfl | (simp; done) | (simp [*]; done)), (by first | rfl | (simp; done) | (simp [*]; done)), H', ⟨by have := HK1.out; omega⟩, ⟨by (with_reducible repeat (first | apply Kd.R_alloc | apply Kd.R_drewN | apply Kd.R_drew)); exact HO_4.out⟩, ⟨by repeat (first | (with_reducible first | exact HB.out | apply below_alloc | apply pw_below_drewN | apply below_drew1) | exact HB.out)⟩⟩
                                · rw [if_neg c24] at H
                                  exact absurd H (by simp)
                              · rw [if_neg c23] at H
                                exact absurd H (by simp)
                          · rw [if_neg c20] at H
                            have c20b0 : ((t184.extract (((rd_T39 t185 x9_1).f1) : Int).toNat ((wrap64 (((rd_T39 t185 x9_1).f1) + 1)) : Int).toNat).toList == ([123] : List UInt8)) = false := beq_eq_false_iff_ne.mpr c20
                            (try (have c20u0_0 : ((t184.extract (((rd_T39 t185 x9_1).f1) : Int).toNat (((((rd_T39 t185 x9_1).f1) + 1)) : Int).toNat).toList == ([123] : List UInt8)) = false := by have h_ := c20b0; rwa [show wrap64 (((rd_T39 t185 x9_1).f1) + 1) = (((rd_T39 t185 x9_1).f1) + 1) from by unfold wrap64; omega] at h_))
                            have c20b1 : ((t184.extract (((rd_T39 t185 x9_1).f1) : Int).toNat ((wrap64 (((rd_T39 t185 x9_1).f1) + 1)) : Int).toNat).toList != ([123] : List UInt8)) = true := bne_iff_ne.mpr c20
                            (try (have c20u1_0 : ((t184.extract (((rd_T39 t185 x9_1).f1) : Int).toNat (((((rd_T39 t185 x9_1).f1) + 1)) : Int).toNat).toList != ([123] : List UInt8)) = true := by have h_ := c20b1; rwa [show wrap64 (((rd_T39 t185 x9_1).f1) + 1) = (((rd_T39 t185 x9_1).f1) + 1) from by unfold wrap64; omega] at h_))
                            obtain rfl := Option.some.inj H
                            obtain ⟨Ao26, co26, eo26⟩ := Kd.R_slice HO_4.out
                            subst eo26
                            have p190 : 0 ≤ (x9_1 : Int) := of_decide_eq_true (by first | (with_reducible assumption) | assumption)
                            have q190 : x9_1 < (t185.length : Int) := of_decide_eq_true (by first | (with_reducible assumption) | assumption)
                            obtain ⟨ad190, e190, hx190_0, hx190_1, hx190_2⟩ := at_T39 (Kd.R_reads' HO_4.out).2.2 x9_1 p190 q190
                            cases e190
                            replace p190 := eq_true p190
                            replace q190 := eq_true q190
                            have p191 : 0 ≤ (x9_1 : Int) := of_decide_eq_true (by first | (with_reducible assumption) | assumption)
                            have q191 : x9_1 < (t185.length : Int) := of_decide_eq_true (by first | (with_reducible assumption) | assumption)
                            obtain ⟨ad191, e191, hx191_0, hx191_1, hx191_2⟩ := at_T39 (Kd.R_reads' HO_4.out).2.2 x9_1 p191 q191
                            obtain rfl : ad190 = ad191 := (by injection e191)
                            replace p191 := eq_true p191
                            replace q191 := eq_true q191
                            have p192 : 0 ≤ (x9_1 : Int) := of_decide_eq_true (by first | (with_reducible assumption) | assumption)
                            have q192 : x9_1 < (t185.length : Int) := of_decide_eq_true (by first | (with_reducible assumption) | assumption)
                            obtain ⟨ad192, e192, hx192_0, hx192_1, hx192_2⟩ := at_T39 (Kd.R_reads' HO_4.out).2.2 x9_1 p192 q192
                            obtain rfl : ad190 = ad192 := (by injection e192)
                            replace p192 := eq_true p192
                            replace q192 := eq_true q192
                            have p193 : 0 ≤ (x9_1 : Int) := of_decide_eq_true (by first | (with_reducible assumption) | assumption)
                            have q193 : x9_1 < (t185.length : Int) := of_decide_eq_true (by first | (with_reducible assumption) | assumption)
                            obtain ⟨ad193, e193, hx193_0, hx193_1, hx193_2⟩ := at_T39 (Kd.R_reads' HO_4.out).2.2 x9_1 p193 q193
                            obtain rfl : ad190 = ad193 := (by injection e193)
                            replace p193 := eq_true p193
                            replace q193 := eq_true q193
                            have p194 : 0 ≤ (x9_1 : Int) := of_decide_eq_true (by first | (with_reducible assumption) | assumption)
                            have q194 : x9_1 < (t185.length : Int) := of_decide_eq_true (by first | (with_reducible assumption) | assumption)
                            obtain ⟨ad194, e194, hx194_0, hx194_1, hx194_2⟩ := at_T39 (Kd.R_reads' HO_4.out).2.2 x9_1 p194 q194
                            obtain rfl : ad190 = ad194 := (by injection e194)
                            replace p194 := eq_true p194
                            replace q194 := eq_true q194
                            have p195 : 0 ≤ (x9_1 : Int) := of_decide_eq_true (by first | (with_reducible assumption) | assumption)
                            have q195 : x9_1 < (t185.length : Int) := of_decide_eq_true (by first | (with_reducible assumption) | assumption)
                            obtain ⟨ad195, e195, hx195_0, hx195_1, hx195_2⟩ := at_T39 (Kd.R_reads' HO_4.out).2.2 x9_1 p195 q195
                            obtain rfl : ad190 = ad195 := (by injection e195)
                            replace p195 := eq_true p195
                            replace q195 := eq_true q195
                            go_wp2
                            repeat (go_quiet (fail); try go_wp2)
                            go_ret
                            exact ⟨by first | rfl | (simp [errW_none, errW_some] <;> rfl) | (simp [*, errW_none, errW_some] <;> rfl), by repeat (first | (with_reducible first | exact HB.out | apply below_alloc | apply pw_below_drewN | apply below_drew1) | exact HB.out)⟩
                        · rw [if_neg c19] at H
                          exact absurd H (by simp)
                      · rw [if_neg c18] at H
                        exact absurd H (by simp)
                    · rw [if_neg c17] at H
                      exact absurd H (by simp)
              · rw [if_neg c12] at H
                have c12b0 : (((rd_T39 t185 x9_1).f0) == 2) = false := beq_eq_false_iff_ne.mpr c12
                have c12b1 : (((rd_T39 t185 x9_1).f0) != 2) = true := bne_iff_ne.mpr c12
                by_cases c27 : ((rd_T39 t185 x9_1).f0) = 3
                · rw [if_pos c27] at H
                  have c27b0 : (((rd_T39 t185 x9_1).f0) == 3) = true := beq_iff_eq.mpr c27
                  have c27b1 : (((rd_T39 t185 x9_1).f0) != 3) = false := bne_eq_false_iff_eq.mpr c27
                  clear c27
                  by_cases c28 : ((rd_T39 t185 x9_1).f1) < x8_1
                  · rw [if_pos c28] at H
                    have c28b0 : decide (((rd_T39 t185 x9_1).f1) < x8_1) = true := decide_eq_true c28
                    clear c28
                    obtain rfl := Option.some.inj H
                    obtain ⟨Ao29, co29, eo29⟩ := Kd.R_slice HO_4.out
                    subst eo29
                    have p190 : 0 ≤ (x9_1 : Int) := of_decide_eq_true (by first | (with_reducible assumption) | assumption)
                    have q190 : x9_1 < (t185.length : Int) := of_decide_eq_true (by first | (with_reducible assumption) | assumption)
                    obtain ⟨ad190, e190, hx190_0, hx190_1, hx190_2⟩ := at_T39 (Kd.R_reads' HO_4.out).2.2 x9_1 p190 q190
                    cases e190
                    replace p190 := eq_true p190
                    replace q190 := eq_true q190
                    have p191 : 0 ≤ (x9_1 : Int) := of_decide_eq_true (by first | (with_reducible assumption) | assumption)
                    have q191 : x9_1 < (t185.length : Int) := of_decide_eq_true (by first | (with_reducible assumption) | assumption)
                    obtain ⟨ad191, e191, hx191_0, hx191_1, hx191_2⟩ := at_T39 (Kd.R_reads' HO_4.out).2.2 x9_1 p191 q191
                    obtain rfl : ad190 = ad191 := (by injection e191)
                    replace p191 := eq_true p191
                    replace q191 := eq_true q191
                    have p197 : 0 ≤ (x9_1 : Int) := of_decide_eq_true (by first | (with_reducible assumption) | assumption)
                    have q197 : x9_1 < (t185.length : Int) := of_decide_eq_true (by first | (with_reducible assumption) | assumption)
                    obtain ⟨ad197, e197, hx197_0, hx197_1, hx197_2⟩ := at_T39 (Kd.R_reads' HO_4.out).2.2 x9_1 p197 q197
                    obtain rfl : ad190 = ad197 := (by injection e197)
                    replace p197 := eq_true p197
                    replace q197 := eq_true q197
                    go_wp2
                    repeat (go_quiet (fail); try go_wp2)
                    go_ret
                    exact ⟨by first | rfl | (simp [errW_none, errW_some] <;> rfl) | (simp [*, errW_none, errW_some] <;> rfl), by repeat (first | (with_reducible first | exact HB.out | apply below_alloc | apply pw_below_drewN | apply below_drew1) | exact HB.out)⟩
                  · rw [if_neg c28] at H
                    have c28b0 : decide (((rd_T39 t185 x9_1).f1) < x8_1) = false := decide_eq_false c28
                    clear c28
                    by_cases c30 : (wrap64 (((rd_T39 t185 x9_1).f1) + 1)) > (t184.size : Int)
                    · rw [if_pos c30] at H
                      have c30b0 : decide ((t184.size : Int) < (wrap64 (((rd_T39 t185 x9_1).f1) + 1))) = true := decide_eq_true c30
                      (try (have c30u0_0 : decide ((t184.size : Int) < ((((rd_T39 t185 x9_1).f1) + 1))) = true := by have h_ := c30b0; rwa [show wrap64 (((rd_T39 t185 x9_1).f1) + 1) = (((rd_T39 t185 x9_1).f1) + 1) from by unfold wrap64; omega] at h_))
                      clear c30
                      obtain rfl := Option.some.inj H
                      obtain ⟨Ao31, co31, eo31⟩ := Kd.R_slice HO_4.out
                      subst eo31
                      have p190 : 0 ≤ (x9_1 : Int) := of_decide_eq_true (by first | (with_reducible assumption) | assumption)
                      have q190 : x9_1 < (t185.length : Int) := of_decide_eq_true (by first | (with_reducible assumption) | assumption)
                      obtain ⟨ad190, e190, hx190_0, hx190_1, hx190_2⟩ := at_T39 (Kd.R_reads' HO_4.out).2.2 x9_1 p190 q190
                      cases e190
                      replace p190 := eq_true p190
                      replace q190 := eq_true q190
                      have p191 : 0 ≤ (x9_1 : Int) := of_decide_eq_true (by first | (with_reducible assumption) | assumption)
                      have q191 : x9_1 < (t185.length : Int) := of_decide_eq_true (by first | (with_reducible assumption) | assumption)
                      obtain ⟨ad191, e191, hx191_0, hx191_1, hx191_2⟩ := at_T39 (Kd.R_reads' HO_4.out).2.2 x9_1 p191 q191
                      obtain rfl : ad190 = ad191 := (by injection e191)
                      replace p191 := eq_true p191
                      replace q191 := eq_true q191
                      have p197 : 0 ≤ (x9_1 : Int) := of_decide_eq_true (by first | (with_reducible assumption) | assumption)
                      have q197 : x9_1 < (t185.length : Int) := of_decide_eq_true (by first | (with_reducible assumption) | assumption)
                      obtain ⟨ad197, e197, hx197_0, hx197_1, hx197_2⟩ := at_T39 (Kd.R_reads' HO_4.out).2.2 x9_1 p197 q197
                      obtain rfl : ad190 = ad197 := (by injection e197)
                      replace p197 := eq_true p197
                      replace q197 := eq_true q197
                      have p198 : 0 ≤ (x9_1 : Int) := of_decide_eq_true (by first | (with_reducible assumption) | assumption)
                      have q198 : x9_1 < (t185.length : Int) := of_decide_eq_true (by first | (with_reducible assumption) | assumption)
                      obtain ⟨ad198, e198, hx198_0, hx198_1, hx198_2⟩ := at_T39 (Kd.R_reads' HO_4.out).2.2 x9_1 p198 q198
                      obtain rfl : ad190 = ad198 := (by injection e198)
                      replace p198 := eq_true p198
                      replace q198 := eq_true q198
                      go_wp2
                      repeat (go_quiet (fail); try go_wp2)
                      go_ret
                      exact ⟨by first | rfl | (simp [errW_none, errW_some] <;> rfl) | (simp [*, errW_none, errW_some] <;> rfl), by repeat (first | (with_reducible first | exact HB.out | apply below_alloc | apply pw_below_drewN | apply below_drew1) | exact HB.out)⟩
                    · rw [if_neg c30] at H
                      have c30b0 : decide ((t184.size : Int) < (wrap64 (((rd_T39 t185 x9_1).f1) + 1))) = false := decide_eq_false c30
                      (try (have c30u0_0 : decide ((t184.size : Int) < ((((rd_T39 t185 x9_1).f1) + 1))) = false := by have h_ := c30b0; rwa [show wrap64 (((rd_T39 t185 x9_1).f1) + 1) = (((rd_T39 t185 x9_1).f1) + 1) from by unfold wrap64; omega] at h_))
                      clear c30
                      by_cases c32 : 0 ≤ ((rd_T39 t185 x9_1).f1)
                      · rw [if_pos c32] at H
                        have c32b0 := eq_true c32
                        have c32b1 : decide (0 ≤ ((rd_T39 t185 x9_1).f1)) = true := decide_eq_true c32
                        clear c32
                        by_cases c33 : ((rd_T39 t185 x9_1).f1) ≤ (wrap64 (((rd_T39 t185 x9_1).f1) + 1))
                        · rw [if_pos c33] at H
                          have c33b0 := eq_true c33
                          have c33b1 : decide (((rd_T39 t185 x9_1).f1) ≤ (wrap64 (((rd_T39 t185 x9_1).f1) + 1))) = true := decide_eq_true c33
                          (try (have c33u1_0 : decide (((rd_T39 t185 x9_1).f1) ≤ ((((rd_T39 t185 x9_1).f1) + 1))) = true := by have h_ := c33b1; rwa [show wrap64 (((rd_T39 t185 x9_1).f1) + 1) = (((rd_T39 t185 x9_1).f1) + 1) from by unfold wrap64; omega] at h_))
                          by_cases c34 : (wrap64 (((rd_T39 t185 x9_1).f1) + 1)) ≤ (t184.size : Int)
                          · rw [if_pos c34] at H
                            have c34b0 := eq_true c34
                            have c34b1 : decide ((wrap64 (((rd_T39 t185 x9_1).f1) + 1)) ≤ (t184.size : Int)) = true := decide_eq_true c34
                            (try (have c34u1_0 : decide (((((rd_T39 t185 x9_1).f1) + 1)) ≤ (t184.size : Int)) = true := by have h_ := c34b1; rwa [show wrap64 (((rd_T39 t185 x9_1).f1) + 1) = (((rd_T39 t185 x9_1).f1) + 1) from by unfold wrap64; omega] at h_))
                            by_cases c35 : (t184.extract (((rd_T39 t185 x9_1).f1) : Int).toNat ((wrap64 (((rd_T39 t185 x9_1).f1) + 1)) : Int).toNat).toList = ([125] : List UInt8)
                            · rw [if_pos c35] at H
                              have c35b0 : ((t184.extract (((rd_T39 t185 x9_1).f1) : Int).toNat ((wrap64 (((rd_T39 t185 x9_1).f1) + 1)) : Int).toNat).toList == ([125] : List UInt8)) = true := beq_iff_eq.mpr c35
                              (try (have c35u0_0 : ((t184.extract (((rd_T39 t185 x9_1).f1) : Int).toNat (((((rd_T39 t185 x9_1).f1) + 1)) : Int).toNat).toList == ([125] : List UInt8)) = true := by have h_ := c35b0; rwa [show wrap64 (((rd_T39 t185 x9_1).f1) + 1) = (((rd_T39 t185 x9_1).f1) + 1) from by unfold wrap64; omega] at h_))
                              have c35b1 : ((t184.extract (((rd_T39 t185 x9_1).f1) : Int).toNat ((wrap64 (((rd_T39 t185 x9_1).f1) + 1)) : Int).toNat).toList != ([125] : List UInt8)) = false := bne_eq_false_iff_eq.mpr c35
                              (try (have c35u1_0 : ((t184.extract (((rd_T39 t185 x9_1).f1) : Int).toNat (((((rd_T39 t185 x9_1).f1) + 1)) : Int).toNat).toList != ([125] : List UInt8)) = false := by have h_ := c35b1; rwa [show wrap64 (((rd_T39 t185 x9_1).f1) + 1) = (((rd_T39 t185 x9_1).f1) + 1) from by unfold wrap64; omega] at h_))
                              clear c35
                              by_cases c36 : ([125] : List UInt8) = ([] : List UInt8)
                              · rw [if_pos c36] at H
                                have c36b0 : (([125] : List UInt8) == ([] : List UInt8)) = true := beq_iff_eq.mpr c36
                                (try (have c36e0 : (([125] : List UInt8).isEmpty) = true := by have h_ := c36b0; simp only [beq_nil_isEmpty] at h_; exact h_))
                                have c36b1 : (([125] : List UInt8) != ([] : List UInt8)) = false := bne_eq_false_iff_eq.mpr c36
                                clear c36
                                obtain rfl := Option.some.inj H
                                obtain ⟨Ao37, co37, eo37⟩ := Kd.R_slice HO_4.out
                                subst eo37
                                have p190 : 0 ≤ (x9_1 : Int) := of_decide_eq_true (by first | (with_reducible assumption) | assumption)
                                have q190 : x9_1 < (t185.length : Int) := of_decide_eq_true (by first | (with_reducible assumption) | assumption)
                                obtain ⟨ad190, e190, hx190_0, hx190_1, hx190_2⟩ := at_T39 (Kd.R_reads' HO_4.out).2.2 x9_1 p190 q190
                                cases e190
                                replace p190 := eq_true p190
                                replace q190 := eq_true q190
                                have p191 : 0 ≤ (x9_1 : Int) := of_decide_eq_true (by first | (with_reducible assumption) | assumption)
                                have q191 : x9_1 < (t185.length : Int) := of_decide_eq_true (by first | (with_reducible assumption) | assumption)
                                obtain ⟨ad191, e191, hx191_0, hx191_1, hx191_2⟩ := at_T39 (Kd.R_reads' HO_4.out).2.2 x9_1 p191 q191
                                obtain rfl : ad190 = ad191 := (by injection e191)
                                replace p191 := eq_true p191
                                replace q191 := eq_true q191
                                have p197 : 0 ≤ (x9_1 : Int) := of_decide_eq_true (by first | (with_reducible assumption) | assumption)
                                have q197 : x9_1 < (t185.length : Int) := of_decide_eq_true (by first | (with_reducible assumption) | assumption)
                                obtain ⟨ad197, e197, hx197_0, hx197_1, hx197_2⟩ := at_T39 (Kd.R_reads' HO_4.out).2.2 x9_1 p197 q197
                                obtain rfl : ad190 = ad197 := (by injection e197)
                                replace p197 := eq_true p197
                                replace q197 := eq_true q197
                                have p198 : 0 ≤ (x9_1 : Int) := of_decide_eq_true (by first | (with_reducible assumption) | assumption)
                                have q198 : x9_1 < (t185.length : Int) := of_decide_eq_true (by first | (with_reducible assumption) | assumption)
                                obtain ⟨ad198, e198, hx198_0, hx198_1, hx198_2⟩ := at_T39 (Kd.R_reads' HO_4.out).2.2 x9_1 p198 q198
                                obtain rfl : ad190 = ad198 := (by injection e198)
                                replace p198 := eq_true p198
                                replace q198 := eq_true q198
                                have p199 : 0 ≤ (x9_1 : Int) := of_decide_eq_true (by first | (with_reducible assumption) | assumption)
                                have q199 : x9_1 < (t185.length : Int) := of_decide_eq_true (by first | (with_reducible assumption) | assumption)
                                obtain ⟨ad199, e199, hx199_0, hx199_1, hx199_2⟩ := at_T39 (Kd.R_reads' HO_4.out).2.2 x9_1 p199 q199
                                obtain rfl : ad190 = ad199 := (by injection e199)
                                replace p199 := eq_true p199
                                replace q199 := eq_true q199
                                have p200 : 0 ≤ (x9_1 : Int) := of_decide_eq_true (by first | (with_reducible assumption) | assumption)
                                have q200 : x9_1 < (t185.length : Int) := of_decide_eq_true (by first | (with_reducible assumption) | assumption)
                                obtain ⟨ad200, e200, hx200_0, hx200_1, hx200_2⟩ := at_T39 (Kd.R_reads' HO_4.out).2.2 x9_1 p200 q200
                                obtain rfl : ad190 = ad200 := (by injection e200)
                                replace p200 := eq_true p200
                                replace q200 := eq_true q200
                                go_wp2
                                repeat (go_quiet (fail); try go_wp2)
                                go_ret
                                exact ⟨by first | rfl | (simp [errW_none, errW_some] <;> rfl) | (simp [*, errW_none, errW_some] <;> rfl), by repeat (first | (with_reducible first | exact HB.out | apply below_alloc | apply pw_below_drewN | apply below_drew1) | exact HB.out)⟩
                              · rw [if_neg c36] at H
                                have c36b0 : (([125] : List UInt8) == ([] : List UInt8)) = false := beq_eq_false_iff_ne.mpr c36
                                (try (have c36e0 : (([125] : List UInt8).isEmpty) = false := by have h_ := c36b0; simp only [beq_nil_isEmpty] at h_; exact h_))
                                have c36b1 : (([125] : List UInt8) != ([] : List UInt8)) = true := bne_iff_ne.mpr c36
                                by_cases c38 : x7_1.size + 1 ≤ 9223372036854775807
                                · rw [if_pos c38] at H
                                  have c38b0 := eq_true c38
                                  have c38b1 : decide (x7_1.size + 1 ≤ 9223372036854775807) = true := decide_eq_true c38
                                  try have c38b2 : (9223372036854775807 < x7_1.size + 1) = False := eq_false (Nat.not_lt.2 c38)
                                  by_cases c39 : (x7_1 ++ (⟨#[32]⟩ : ByteArray)).size + 1 ≤ 9223372036854775807
                                  · rw [if_pos c39] at H
                                    have c39b0 := eq_true c39
                                    have c39b1 : decide ((x7_1 ++ (⟨#[32]⟩ : ByteArray)).size + 1 ≤ 9223372036854775807) = true := decide_eq_true c39
                                    (try (have c39t1 : decide (x7_1.size + 1 + 1 ≤ 9223372036854775807) = true := by have h_ := c39b1; simp only [ByteArray.size_append] at h_; exact h_))
                                    try have c39b2 : (9223372036854775807 < (x7_1 ++ (⟨#[32]⟩ : ByteArray)).size + 1) = False := eq_false (Nat.not_lt.2 c39)
                                    (try (have c39t2 : (9223372036854775807 < x7_1.size + 1 + 1) = False := by have h_ := c39b2; simp only [ByteArray.size_append] at h_; exact h_))
                                    have H' := Aside0.mk H
                                    clear H
                                    obtain ⟨Ao40, co40, eo40⟩ := Kd.R_slice HO_4.out
                                    subst eo40
                                    have p190 : 0 ≤ (x9_1 : Int) := of_decide_eq_true (by first | (with_reducible assumption) | assumption)
                                    have q190 : x9_1 < (t185.length : Int) := of_decide_eq_true (by first | (with_reducible assumption) | assumption)
                                    obtain ⟨ad190, e190, hx190_0, hx190_1, hx190_2⟩ := at_T39 (Kd.R_reads' HO_4.out).2.2 x9_1 p190 q190
                                    cases e190
                                    replace p190 := eq_true p190
                                    replace q190 := eq_true q190
                                    have p191 : 0 ≤ (x9_1 : Int) := of_decide_eq_true (by first | (with_reducible assumption) | assumption)
                                    have q191 : x9_1 < (t185.length : Int) := of_decide_eq_true (by first | (with_reducible assumption) | assumption)
                                    obtain ⟨ad191, e191, hx191_0, hx191_1, hx191_2⟩ := at_T39 (Kd.R_reads' HO_4.out).2.2 x9_1 p191 q191
                                    obtain rfl : ad190 = ad191 := (by injection e191)
                                    replace p191 := eq_true p191
                                    replace q191 := eq_true q191
                                    have p197 : 0 ≤ (x9_1 : Int) := of_decide_eq_true (by first | (with_reducible assumption) | assumption)
                                    have q197 : x9_1 < (t185.length : Int) := of_decide_eq_true (by first | (with_reducible assumption) | assumption)
                                    obtain ⟨ad197, e197, hx197_0, hx197_1, hx197_2⟩ := at_T39 (Kd.R_reads' HO_4.out).2.2 x9_1 p197 q197
                                    obtain rfl : ad190 = ad197 := (by injection e197)
                                    replace p197 := eq_true p197
                                    replace q197 := eq_true q197
                                    have p198 : 0 ≤ (x9_1 : Int) := of_decide_eq_true (by first | (with_reducible assumption) | assumption)
                                    have q198 : x9_1 < (t185.length : Int) := of_decide_eq_true (by first | (with_reducible assumption) | assumption)
                                    obtain ⟨ad198, e198, hx198_0, hx198_1, hx198_2⟩ := at_T39 (Kd.R_reads' HO_4.out).2.2 x9_1 p198 q198
                                    obtain rfl : ad190 = ad198 := (by injection e198)
                                    replace p198 := eq_true p198
                                    replace q198 := eq_true q198
                                    have p199 : 0 ≤ (x9_1 : Int) := of_decide_eq_true (by first | (with_reducible assumption) | assumption)
                                    have q199 : x9_1 < (t185.length : Int) := of_decide_eq_true (by first | (with_reducible assumption) | assumption)
                                    obtain ⟨ad199, e199, hx199_0, hx199_1, hx199_2⟩ := at_T39 (Kd.R_reads' HO_4.out).2.2 x9_1 p199 q199
                                    obtain rfl : ad190 = ad199 := (by injection e199)
                                    replace p199 := eq_true p199
                                    replace q199 := eq_true q199
                                    have p200 : 0 ≤ (x9_1 : Int) := of_decide_eq_true (by first | (with_reducible assumption) | assumption)
                                    have q200 : x9_1 < (t185.length : Int) := of_decide_eq_true (by first | (with_reducible assumption) | assumption)
                                    obtain ⟨ad200, e200, hx200_0, hx200_1, hx200_2⟩ := at_T39 (Kd.R_reads' HO_4.out).2.2 x9_1 p200 q200
                                    obtain rfl : ad190 = ad200 := (by injection e200)
                                    replace p200 := eq_true p200
                                    replace q200 := eq_true q200
                                    have p201 : 0 ≤ (x9_1 : Int) := of_decide_eq_true (by first | (with_reducible assumption) | assumption)
                                    have q201 : x9_1 < (t185.length : Int) := of_decide_eq_true (by first | (with_reducible assumption) | assumption)
                                    obtain ⟨ad201, e201, hx201_0, hx201_1, hx201_2⟩ := at_T39 (Kd.R_reads' HO_4.out).2.2 x9_1 p201 q201
                                    obtain rfl : ad190 = ad201 := (by injection e201)
                                    replace p201 := eq_true p201
                                    replace q201 := eq_true q201
                                    go_wp2
                                    repeat (go_quiet (fail); try go_wp2)
                                    go_roundg k1
                                    case measure => have := HK1.out; omega
                                    case rel => exact ⟨((x7_1 ++ (⟨#[32]⟩ : ByteArray)) ++ (⟨#[125]⟩ : ByteArray)), (wrap64 (((rd_T39 t185 x9_1).f1) + 1)), (wrap64 (x9_1 + 1)), (by first | rfl | (simp; done) | (simp [*]; done)), (by first | rfl | (simp; done) | (simp [*]; done)), (by first | rfl | (simp; done) | (simp [*]; done)), H', ⟨by have := HK1.out; omega⟩, ⟨by (with_reducible repeat (first | apply Kd.R_alloc | apply Kd.R_drewN | apply Kd.R_drew)); exact HO_4.out⟩, ⟨by repeat (first | (with_reducible first | exact HB.out | apply below_alloc | apply pw_below_drewN | apply below_drew1) | exact HB.out)⟩⟩
                                  · rw [if_neg c39] at H
                                    exact absurd H (by simp)
                                · rw [if_neg c38] at H
                                  exact absurd H (by simp)
                            · rw [if_neg c35] at H
                              have c35b0 : ((t184.extract (((rd_T39 t185 x9_1).f1) : Int).toNat ((wrap64 (((rd_T39 t185 x9_1).f1) + 1)) : Int).toNat).toList == ([125] : List UInt8)) = false := beq_eq_false_iff_ne.mpr c35
                              (try (have c35u0_0 : ((t184.extract (((rd_T39 t185 x9_1).f1) : Int).toNat (((((rd_T39 t185 x9_1).f1) + 1)) : Int).toNat).toList == ([125] : List UInt8)) = false := by have h_ := c35b0; rwa [show wrap64 (((rd_T39 t185 x9_1).f1) + 1) = (((rd_T39 t185 x9_1).f1) + 1) from by unfold wrap64; omega] at h_))
                              have c35b1 : ((t184.extract (((rd_T39 t185 x9_1).f1) : Int).toNat ((wrap64 (((rd_T39 t185 x9_1).f1) + 1)) : Int).toNat).toList != ([125] : List UInt8)) = true := bne_iff_ne.mpr c35
                              (try (have c35u1_0 : ((t184.extract (((rd_T39 t185 x9_1).f1) : Int).toNat (((((rd_T39 t185 x9_1).f1) + 1)) : Int).toNat).toList != ([125] : List UInt8)) = true := by have h_ := c35b1; rwa [show wrap64 (((rd_T39 t185 x9_1).f1) + 1) = (((rd_T39 t185 x9_1).f1) + 1) from by unfold wrap64; omega] at h_))
                              obtain rfl := Option.some.inj H
                              obtain ⟨Ao41, co41, eo41⟩ := Kd.R_slice HO_4.out
                              subst eo41
                              have p190 : 0 ≤ (x9_1 : Int) := of_decide_eq_true (by first | (with_reducible assumption) | assumption)
                              have q190 : x9_1 < (t185.length : Int) := of_decide_eq_true (by first | (with_reducible assumption) | assumption)
                              obtain ⟨ad190, e190, hx190_0, hx190_1, hx190_2⟩ := at_T39 (Kd.R_reads' HO_4.out).2.2 x9_1 p190 q190
                              cases e190
                              replace p190 := eq_true p190
                              replace q190 := eq_true q190
                              have p191 : 0 ≤ (x9_1 : Int) := of_decide_eq_true (by first | (with_reducible assumption) | assumption)
                              have q191 : x9_1 < (t185.length : Int) := of_decide_eq_true (by first | (with_reducible assumption) | assumption)
                              obtain ⟨ad191, e191, hx191_0, hx191_1, hx191_2⟩ := at_T39 (Kd.R_reads' HO_4.out).2.2 x9_1 p191 q191
                              obtain rfl : ad190 = ad191 := (by injection e191)
                              replace p191 := eq_true p191
                              replace q191 := eq_true q191
                              have p197 : 0 ≤ (x9_1 : Int) := of_decide_eq_true (by first | (with_reducible assumption) | assumption)
                              have q197 : x9_1 < (t185.length : Int) := of_decide_eq_true (by first | (with_reducible assumption) | assumption)
                              obtain ⟨ad197, e197, hx197_0, hx197_1, hx197_2⟩ := at_T39 (Kd.R_reads' HO_4.out).2.2 x9_1 p197 q197
                              obtain rfl : ad190 = ad197 := (by injection e197)
                              replace p197 := eq_true p197
                              replace q197 := eq_true q197
                              have p198 : 0 ≤ (x9_1 : Int) := of_decide_eq_true (by first | (with_reducible assumption) | assumption)
                              have q198 : x9_1 < (t185.length : Int) := of_decide_eq_true (by first | (with_reducible assumption) | assumption)
                              obtain ⟨ad198, e198, hx198_0, hx198_1, hx198_2⟩ := at_T39 (Kd.R_reads' HO_4.out).2.2 x9_1 p198 q198
                              obtain rfl : ad190 = ad198 := (by injection e198)
                              replace p198 := eq_true p198
                              replace q198 := eq_true q198
                              have p199 : 0 ≤ (x9_1 : Int) := of_decide_eq_true (by first | (with_reducible assumption) | assumption)
                              have q199 : x9_1 < (t185.length : Int) := of_decide_eq_true (by first | (with_reducible assumption) | assumption)
                              obtain ⟨ad199, e199, hx199_0, hx199_1, hx199_2⟩ := at_T39 (Kd.R_reads' HO_4.out).2.2 x9_1 p199 q199
                              obtain rfl : ad190 = ad199 := (by injection e199)
                              replace p199 := eq_true p199
                              replace q199 := eq_true q199
                              have p200 : 0 ≤ (x9_1 : Int) := of_decide_eq_true (by first | (with_reducible assumption) | assumption)
                              have q200 : x9_1 < (t185.length : Int) := of_decide_eq_true (by first | (with_reducible assumption) | assumption)
                              obtain ⟨ad200, e200, hx200_0, hx200_1, hx200_2⟩ := at_T39 (Kd.R_reads' HO_4.out).2.2 x9_1 p200 q200
                              obtain rfl : ad190 = ad200 := (by injection e200)
                              replace p200 := eq_true p200
                              replace q200 := eq_true q200
                              go_wp2
                              repeat (go_quiet (fail); try go_wp2)
                              go_ret
                              exact ⟨by first | rfl | (simp [errW_none, errW_some] <;> rfl) | (simp [*, errW_none, errW_some] <;> rfl), by repeat (first | (with_reducible first | exact HB.out | apply below_alloc | apply pw_below_drewN | apply below_drew1) | exact HB.out)⟩
                          · rw [if_neg c34] at H
                            exact absurd H (by simp)
                        · rw [if_neg c33] at H
                          exact absurd H (by simp)
                      · rw [if_neg c32] at H
                        exact absurd H (by simp)
                · rw [if_neg c27] at H
                  have c27b0 : (((rd_T39 t185 x9_1).f0) == 3) = false := beq_eq_false_iff_ne.mpr c27
                  have c27b1 : (((rd_T39 t185 x9_1).f0) != 3) = true := bne_iff_ne.mpr c27
                  by_cases c42 : ((rd_T39 t185 x9_1).f1) < x8_1
                  · rw [if_pos c42] at H
                    have c42b0 : decide (((rd_T39 t185 x9_1).f1) < x8_1) = true := decide_eq_true c42
                    clear c42
                    obtain rfl := Option.some.inj H
                    obtain ⟨Ao43, co43, eo43⟩ := Kd.R_slice HO_4.out
                    subst eo43
                    have p190 : 0 ≤ (x9_1 : Int) := of_decide_eq_true (by first | (with_reducible assumption) | assumption)
                    have q190 : x9_1 < (t185.length : Int) := of_decide_eq_true (by first | (with_reducible assumption) | assumption)
                    obtain ⟨ad190, e190, hx190_0, hx190_1, hx190_2⟩ := at_T39 (Kd.R_reads' HO_4.out).2.2 x9_1 p190 q190
                    cases e190
                    replace p190 := eq_true p190
                    replace q190 := eq_true q190
                    have p191 : 0 ≤ (x9_1 : Int) := of_decide_eq_true (by first | (with_reducible assumption) | assumption)
                    have q191 : x9_1 < (t185.length : Int) := of_decide_eq_true (by first | (with_reducible assumption) | assumption)
                    obtain ⟨ad191, e191, hx191_0, hx191_1, hx191_2⟩ := at_T39 (Kd.R_reads' HO_4.out).2.2 x9_1 p191 q191
                    obtain rfl : ad190 = ad191 := (by injection e191)
                    replace p191 := eq_true p191
                    replace q191 := eq_true q191
                    have p202 : 0 ≤ (x9_1 : Int) := of_decide_eq_true (by first | (with_reducible assumption) | assumption)
                    have q202 : x9_1 < (t185.length : Int) := of_decide_eq_true (by first | (with_reducible assumption) | assumption)
                    obtain ⟨ad202, e202, hx202_0, hx202_1, hx202_2⟩ := at_T39 (Kd.R_reads' HO_4.out).2.2 x9_1 p202 q202
                    obtain rfl : ad190 = ad202 := (by injection e202)
                    replace p202 := eq_true p202
                    replace q202 := eq_true q202
                    go_wp2
                    repeat (go_quiet (fail); try go_wp2)
                    go_ret
                    exact ⟨by first | rfl | (simp [errW_none, errW_some] <;> rfl) | (simp [*, errW_none, errW_some] <;> rfl), by repeat (first | (with_reducible first | exact HB.out | apply below_alloc | apply pw_below_drewN | apply below_drew1) | exact HB.out)⟩
                  · rw [if_neg c42] at H
                    have c42b0 : decide (((rd_T39 t185 x9_1).f1) < x8_1) = false := decide_eq_false c42
                    clear c42
                    by_cases c44 : (wrap64 (((rd_T39 t185 x9_1).f1) + (((rd_T39 t185 x9_1).f2).size : Int))) > (t184.size : Int)
                    · rw [if_pos c44] at H
                      have c44b0 : decide ((t184.size : Int) < (wrap64 (((rd_T39 t185 x9_1).f1) + (((rd_T39 t185 x9_1).f2).size : Int)))) = true := decide_eq_true c44
                      (try (have c44u0_0 : decide ((t184.size : Int) < ((((rd_T39 t185 x9_1).f1) + (((rd_T39 t185 x9_1).f2).size : Int)))) = true := by have h_ := c44b0; rwa [show wrap64 (((rd_T39 t185 x9_1).f1) + (((rd_T39 t185 x9_1).f2).size : Int)) = (((rd_T39 t185 x9_1).f1) + (((rd_T39 t185 x9_1).f2).size : Int)) from by unfold wrap64; omega] at h_))
                      clear c44
                      obtain rfl := Option.some.inj H
                      obtain ⟨Ao45, co45, eo45⟩ := Kd.R_slice HO_4.out
                      subst eo45
                      have p190 : 0 ≤ (x9_1 : Int) := of_decide_eq_true (by first | (with_reducible assumption) | assumption)
                      have q190 : x9_1 < (t185.length : Int) := of_decide_eq_true (by first | (with_reducible assumption) | assumption)
                      obtain ⟨ad190, e190, hx190_0, hx190_1, hx190_2⟩ := at_T39 (Kd.R_reads' HO_4.out).2.2 x9_1 p190 q190
                      cases e190
                      replace p190 := eq_true p190
                      replace q190 := eq_true q190
                      have p191 : 0 ≤ (x9_1 : Int) := of_decide_eq_true (by first | (with_reducible assumption) | assumption)
                      have q191 : x9_1 < (t185.length : Int) := of_decide_eq_true (by first | (with_reducible assumption) | assumption)
                      obtain ⟨ad191, e191, hx191_0, hx191_1, hx191_2⟩ := at_T39 (Kd.R_reads' HO_4.out).2.2 x9_1 p191 q191
                      obtain rfl : ad190 = ad191 := (by injection e191)
                      replace p191 := eq_true p191
                      replace q191 := eq_true q191
                      have p202 : 0 ≤ (x9_1 : Int) := of_decide_eq_true (by first | (with_reducible assumption) | assumption)
                      have q202 : x9_1 < (t185.length : Int) := of_decide_eq_true (by first | (with_reducible assumption) | assumption)
                      obtain ⟨ad202, e202, hx202_0, hx202_1, hx202_2⟩ := at_T39 (Kd.R_reads' HO_4.out).2.2 x9_1 p202 q202
                      obtain rfl : ad190 = ad202 := (by injection e202)
                      replace p202 := eq_true p202
                      replace q202 := eq_true q202
                      have p203 : 0 ≤ (x9_1 : Int) := of_decide_eq_true (by first | (with_reducible assumption) | assumption)
                      have q203 : x9_1 < (t185.length : Int) := of_decide_eq_true (by first | (with_reducible assumption) | assumption)
                      obtain ⟨ad203, e203, hx203_0, hx203_1, hx203_2⟩ := at_T39 (Kd.R_reads' HO_4.out).2.2 x9_1 p203 q203
                      obtain rfl : ad190 = ad203 := (by injection e203)
                      replace p203 := eq_true p203
                      replace q203 := eq_true q203
                      go_wp2
                      repeat (go_quiet (fail); try go_wp2)
                      go_ret
                      exact ⟨by first | rfl | (simp [errW_none, errW_some] <;> rfl) | (simp [*, errW_none, errW_some] <;> rfl), by repeat (first | (with_reducible first | exact HB.out | apply below_alloc | apply pw_below_drewN | apply below_drew1) | exact HB.out)⟩
                    · rw [if_neg c44] at H
                      have c44b0 : decide ((t184.size : Int) < (wrap64 (((rd_T39 t185 x9_1).f1) + (((rd_T39 t185 x9_1).f2).size : Int)))) = false := decide_eq_false c44
                      (try (have c44u0_0 : decide ((t184.size : Int) < ((((rd_T39 t185 x9_1).f1) + (((rd_T39 t185 x9_1).f2).size : Int)))) = false := by have h_ := c44b0; rwa [show wrap64 (((rd_T39 t185 x9_1).f1) + (((rd_T39 t185 x9_1).f2).size : Int)) = (((rd_T39 t185 x9_1).f1) + (((rd_T39 t185 x9_1).f2).size : Int)) from by unfold wrap64; omega] at h_))
                      clear c44
                      by_cases c46 : 0 ≤ ((rd_T39 t185 x9_1).f1)
                      · rw [if_pos c46] at H
                        have c46b0 := eq_true c46
                        have c46b1 : decide (0 ≤ ((rd_T39 t185 x9_1).f1)) = true := decide_eq_true c46
                        clear c46
                        by_cases c47 : ((rd_T39 t185 x9_1).f1) ≤ (wrap64 (((rd_T39 t185 x9_1).f1) + (((rd_T39 t185 x9_1).f2).size : Int)))
                        · rw [if_pos c47] at H
                          have c47b0 := eq_true c47
                          have c47b1 : decide (((rd_T39 t185 x9_1).f1) ≤ (wrap64 (((rd_T39 t185 x9_1).f1) + (((rd_T39 t185 x9_1).f2).size : Int)))) = true := decide_eq_true c47
                          (try (have c47u1_0 : decide (((rd_T39 t185 x9_1).f1) ≤ ((((rd_T39 t185 x9_1).f1) + (((rd_T39 t185 x9_1).f2).size : Int)))) = true := by have h_ := c47b1; rwa [show wrap64 (((rd_T39 t185 x9_1).f1) + (((rd_T39 t185 x9_1).f2).size : Int)) = (((rd_T39 t185 x9_1).f1) + (((rd_T39 t185 x9_1).f2).size : Int)) from by unfold wrap64; omega] at h_))
                          by_cases c48 : (wrap64 (((rd_T39 t185 x9_1).f1) + (((rd_T39 t185 x9_1).f2).size : Int))) ≤ (t184.size : Int)
                          · rw [if_pos c48] at H
                            have c48b0 := eq_true c48
                            have c48b1 : decide ((wrap64 (((rd_T39 t185 x9_1).f1) + (((rd_T39 t185 x9_1).f2).size : Int))) ≤ (t184.size : Int)) = true := decide_eq_true c48
                            (try (have c48u1_0 : decide (((((rd_T39 t185 x9_1).f1) + (((rd_T39 t185 x9_1).f2).size : Int))) ≤ (t184.size : Int)) = true := by have h_ := c48b1; rwa [show wrap64 (((rd_T39 t185 x9_1).f1) + (((rd_T39 t185 x9_1).f2).size : Int)) = (((rd_T39 t185 x9_1).f1) + (((rd_T39 t185 x9_1).f2).size : Int)) from by unfold wrap64; omega] at h_))
                            by_cases c49 : (t184.extract (((rd_T39 t185 x9_1).f1) : Int).toNat ((wrap64 (((rd_T39 t185 x9_1).f1) + (((rd_T39 t185 x9_1).f2).size : Int))) : Int).toNat).toList = ((rd_T39 t185 x9_1).f2).toList
                            · rw [if_pos c49] at H
                              have c49b0 : ((t184.extract (((rd_T39 t185 x9_1).f1) : Int).toNat ((wrap64 (((rd_T39 t185 x9_1).f1) + (((rd_T39 t185 x9_1).f2).size : Int))) : Int).toNat).toList == ((rd_T39 t185 x9_1).f2).toList) = true := beq_iff_eq.mpr c49
                              (try (have c49u0_0 : ((t184.extract (((rd_T39 t185 x9_1).f1) : Int).toNat (((((rd_T39 t185 x9_1).f1) + (((rd_T39 t185 x9_1).f2).size : Int))) : Int).toNat).toList == ((rd_T39 t185 x9_1).f2).toList) = true := by have h_ := c49b0; rwa [show wrap64 (((rd_T39 t185 x9_1).f1) + (((rd_T39 t185 x9_1).f2).size : Int)) = (((rd_T39 t185 x9_1).f1) + (((rd_T39 t185 x9_1).f2).size : Int)) from by unfold wrap64; omega] at h_))
                              have c49b1 : ((t184.extract (((rd_T39 t185 x9_1).f1) : Int).toNat ((wrap64 (((rd_T39 t185 x9_1).f1) + (((rd_T39 t185 x9_1).f2).size : Int))) : Int).toNat).toList != ((rd_T39 t185 x9_1).f2).toList) = false := bne_eq_false_iff_eq.mpr c49
                              (try (have c49u1_0 : ((t184.extract (((rd_T39 t185 x9_1).f1) : Int).toNat (((((rd_T39 t185 x9_1).f1) + (((rd_T39 t185 x9_1).f2).size : Int))) : Int).toNat).toList != ((rd_T39 t185 x9_1).f2).toList) = false := by have h_ := c49b1; rwa [show wrap64 (((rd_T39 t185 x9_1).f1) + (((rd_T39 t185 x9_1).f2).size : Int)) = (((rd_T39 t185 x9_1).f1) + (((rd_T39 t185 x9_1).f2).size : Int)) from by unfold wrap64; omega] at h_))
                              clear c49
                              by_cases c50 : ((rd_T39 t185 x9_1).f2).toList = ([] : List UInt8)
                              · rw [if_pos c50] at H
                                have c50b0 : (((rd_T39 t185 x9_1).f2).toList == ([] : List UInt8)) = true := beq_iff_eq.mpr c50
                                have c50b1 : (((rd_T39 t185 x9_1).f2).toList != ([] : List UInt8)) = false := bne_eq_false_iff_eq.mpr c50
                                clear c50
                                obtain rfl := Option.some.inj H
                                obtain ⟨Ao51, co51, eo51⟩ := Kd.R_slice HO_4.out
                                subst eo51
                                have p190 : 0 ≤ (x9_1 : Int) := of_decide_eq_true (by first | (with_reducible assumption) | assumption)
                                have q190 : x9_1 < (t185.length : Int) := of_decide_eq_true (by first | (with_reducible assumption) | assumption)
                                obtain ⟨ad190, e190, hx190_0, hx190_1, hx190_2⟩ := at_T39 (Kd.R_reads' HO_4.out).2.2 x9_1 p190 q190
                                cases e190
                                replace p190 := eq_true p190
                                replace q190 := eq_true q190
                                have p191 : 0 ≤ (x9_1 : Int) := of_decide_eq_true (by first | (with_reducible assumption) | assumption)
                                have q191 : x9_1 < (t185.length : Int) := of_decide_eq_true (by first | (with_reducible assumption) | assumption)
                                obtain ⟨ad191, e191, hx191_0, hx191_1, hx191_2⟩ := at_T39 (Kd.R_reads' HO_4.out).2.2 x9_1 p191 q191
                                obtain rfl : ad190 = ad191 := (by injection e191)
                                replace p191 := eq_true p191
                                replace q191 := eq_true q191
                                have p202 : 0 ≤ (x9_1 : Int) := of_decide_eq_true (by first | (with_reducible assumption) | assumption)
                                have q202 : x9_1 < (t185.length : Int) := of_decide_eq_true (by first | (with_reducible assumption) | assumption)
                                obtain ⟨ad202, e202, hx202_0, hx202_1, hx202_2⟩ := at_T39 (Kd.R_reads' HO_4.out).2.2 x9_1 p202 q202
                                obtain rfl : ad190 = ad202 := (by injection e202)
                                replace p202 := eq_true p202
                                replace q202 := eq_true q202
                                have p203 : 0 ≤ (x9_1 : Int) := of_decide_eq_true (by first | (with_reducible assumption) | assumption)
                                have q203 : x9_1 < (t185.length : Int) := of_decide_eq_true (by first | (with_reducible assumption) | assumption)
                                obtain ⟨ad203, e203, hx203_0, hx203_1, hx203_2⟩ := at_T39 (Kd.R_reads' HO_4.out).2.2 x9_1 p203 q203
                                obtain rfl : ad190 = ad203 := (by injection e203)
                                replace p203 := eq_true p203
                                replace q203 := eq_true q203
                                have p204 : 0 ≤ (x9_1 : Int) := of_decide_eq_true (by first | (with_reducible assumption) | assumption)
                                have q204 : x9_1 < (t185.length : Int) := of_decide_eq_true (by first | (with_reducible assumption) | assumption)
                                obtain ⟨ad204, e204, hx204_0, hx204_1, hx204_2⟩ := at_T39 (Kd.R_reads' HO_4.out).2.2 x9_1 p204 q204
                                obtain rfl : ad190 = ad204 := (by injection e204)
                                replace p204 := eq_true p204
                                replace q204 := eq_true q204
                                have p205 : 0 ≤ (x9_1 : Int) := of_decide_eq_true (by first | (with_reducible assumption) | assumption)
                                have q205 : x9_1 < (t185.length : Int) := of_decide_eq_true (by first | (with_reducible assumption) | assumption)
                                obtain ⟨ad205, e205, hx205_0, hx205_1, hx205_2⟩ := at_T39 (Kd.R_reads' HO_4.out).2.2 x9_1 p205 q205
                                obtain rfl : ad190 = ad205 := (by injection e205)
                                replace p205 := eq_true p205
                                replace q205 := eq_true q205
                                go_wp2
                                repeat (go_quiet (fail); try go_wp2)
                                go_ret
                                exact ⟨by first | rfl | (simp [errW_none, errW_some] <;> rfl) | (simp [*, errW_none, errW_some] <;> rfl), by repeat (first | (with_reducible first | exact HB.out | apply below_alloc | apply pw_below_drewN | apply below_drew1) | exact HB.out)⟩
                              · rw [if_neg c50] at H
                                have c50b0 : (((rd_T39 t185 x9_1).f2).toList == ([] : List UInt8)) = false := beq_eq_false_iff_ne.mpr c50
                                have c50b1 : (((rd_T39 t185 x9_1).f2).toList != ([] : List UInt8)) = true := bne_iff_ne.mpr c50
                                by_cases c52 : x7_1.size + 1 ≤ 9223372036854775807
                                · rw [if_pos c52] at H
                                  have c52b0 := eq_true c52
                                  have c52b1 : decide (x7_1.size + 1 ≤ 9223372036854775807) = true := decide_eq_true c52
                                  try have c52b2 : (9223372036854775807 < x7_1.size + 1) = False := eq_false (Nat.not_lt.2 c52)
                                  by_cases c53 : (x7_1 ++ (⟨#[32]⟩ : ByteArray)).size + ((rd_T39 t185 x9_1).f2).size ≤ 9223372036854775807
                                  · rw [if_pos c53] at H
                                    have c53b0 := eq_true c53
                                    have c53b1 : decide ((x7_1 ++ (⟨#[32]⟩ : ByteArray)).size + ((rd_T39 t185 x9_1).f2).size ≤ 9223372036854775807) = true := decide_eq_true c53
                                    (try (have c53t1 : decide (x7_1.size + 1 + ((rd_T39 t185 x9_1).f2).size ≤ 9223372036854775807) = true := by have h_ := c53b1; simp only [ByteArray.size_append] at h_; exact h_))
                                    try have c53b2 : (9223372036854775807 < (x7_1 ++ (⟨#[32]⟩ : ByteArray)).size + ((rd_T39 t185 x9_1).f2).size) = False := eq_false (Nat.not_lt.2 c53)
                                    (try (have c53t2 : (9223372036854775807 < x7_1.size + 1 + ((rd_T39 t185 x9_1).f2).size) = False := by have h_ := c53b2; simp only [ByteArray.size_append] at h_; exact h_))
                                    have H' := Aside0.mk H
                                    clear H
                                    obtain ⟨Ao54, co54, eo54⟩ := Kd.R_slice HO_4.out
                                    subst eo54
                                    have p190 : 0 ≤ (x9_1 : Int) := of_decide_eq_true (by first | (with_reducible assumption) | assumption)
                                    have q190 : x9_1 < (t185.length : Int) := of_decide_eq_true (by first | (with_reducible assumption) | assumption)
                                    obtain ⟨ad190, e190, hx190_0, hx190_1, hx190_2⟩ := at_T39 (Kd.R_reads' HO_4.out).2.2 x9_1 p190 q190
                                    cases e190
                                    replace p190 := eq_true p190
                                    replace q190 := eq_true q190
                                    have p191 : 0 ≤ (x9_1 : Int) := of_decide_eq_true (by first | (with_reducible assumption) | assumption)
                                    have q191 : x9_1 < (t185.length : Int) := of_decide_eq_true (by first | (with_reducible assumption) | assumption)
                                    obtain ⟨ad191, e191, hx191_0, hx191_1, hx191_2⟩ := at_T39 (Kd.R_reads' HO_4.out).2.2 x9_1 p191 q191
                                    obtain rfl : ad190 = ad191 := (by injection e191)
                                    replace p191 := eq_true p191
                                    replace q191 := eq_true q191
                                    have p202 : 0 ≤ (x9_1 : Int) := of_decide_eq_true (by first | (with_reducible assumption) | assumption)
                                    have q202 : x9_1 < (t185.length : Int) := of_decide_eq_true (by first | (with_reducible assumption) | assumption)
                                    obtain ⟨ad202, e202, hx202_0, hx202_1, hx202_2⟩ := at_T39 (Kd.R_reads' HO_4.out).2.2 x9_1 p202 q202
                                    obtain rfl : ad190 = ad202 := (by injection e202)
                                    replace p202 := eq_true p202
                                    replace q202 := eq_true q202
                                    have p203 : 0 ≤ (x9_1 : Int) := of_decide_eq_true (by first | (with_reducible assumption) | assumption)
                                    have q203 : x9_1 < (t185.length : Int) := of_decide_eq_true (by first | (with_reducible assumption) | assumption)
                                    obtain ⟨ad203, e203, hx203_0, hx203_1, hx203_2⟩ := at_T39 (Kd.R_reads' HO_4.out).2.2 x9_1 p203 q203
                                    obtain rfl : ad190 = ad203 := (by injection e203)
                                    replace p203 := eq_true p203
                                    replace q203 := eq_true q203
                                    have p204 : 0 ≤ (x9_1 : Int) := of_decide_eq_true (by first | (with_reducible assumption) | assumption)
                                    have q204 : x9_1 < (t185.length : Int) := of_decide_eq_true (by first | (with_reducible assumption) | assumption)
                                    obtain ⟨ad204, e204, hx204_0, hx204_1, hx204_2⟩ := at_T39 (Kd.R_reads' HO_4.out).2.2 x9_1 p204 q204
                                    obtain rfl : ad190 = ad204 := (by injection e204)
                                    replace p204 := eq_true p204
                                    replace q204 := eq_true q204
                                    have p205 : 0 ≤ (x9_1 : Int) := of_decide_eq_true (by first | (with_reducible assumption) | assumption)
                                    have q205 : x9_1 < (t185.length : Int) := of_decide_eq_true (by first | (with_reducible assumption) | assumption)
                                    obtain ⟨ad205, e205, hx205_0, hx205_1, hx205_2⟩ := at_T39 (Kd.R_reads' HO_4.out).2.2 x9_1 p205 q205
                                    obtain rfl : ad190 = ad205 := (by injection e205)
                                    replace p205 := eq_true p205
                                    replace q205 := eq_true q205
                                    have p206 : 0 ≤ (x9_1 : Int) := of_decide_eq_true (by first | (with_reducible assumption) | assumption)
                                    have q206 : x9_1 < (t185.length : Int) := of_decide_eq_true (by first | (with_reducible assumption) | assumption)
                                    obtain ⟨ad206, e206, hx206_0, hx206_1, hx206_2⟩ := at_T39 (Kd.R_reads' HO_4.out).2.2 x9_1 p206 q206
                                    obtain rfl : ad190 = ad206 := (by injection e206)
                                    replace p206 := eq_true p206
                                    replace q206 := eq_true q206
                                    go_wp2
                                    repeat (go_quiet (fail); try go_wp2)
                                    go_roundg k1
                                    case measure => have := HK1.out; omega
                                    case rel => exact ⟨((x7_1 ++ (⟨#[32]⟩ : ByteArray)) ++ ((rd_T39 t185 x9_1).f2)), (wrap64 (((rd_T39 t185 x9_1).f1) + (((rd_T39 t185 x9_1).f2).size : Int))), (wrap64 (x9_1 + 1)), (by first | rfl | (simp; done) | (simp [*]; done)), (by first | rfl | (simp; done) | (simp [*]; done)), (by first | rfl | (simp; done) | (simp [*]; done)), H', ⟨by have := HK1.out; omega⟩, ⟨by (with_reducible repeat (first | apply Kd.R_alloc | apply Kd.R_drewN | apply Kd.R_drew)); exact HO_4.out⟩, ⟨by repeat (first | (with_reducible first | exact HB.out | apply below_alloc | apply pw_below_drewN | apply below_drew1) | exact HB.out)⟩⟩
                                  · rw [if_neg c53] at H
                                    exact absurd H (by simp)
                                · rw [if_neg c52] at H
                                  exact absurd H (by simp)
                            · rw [if_neg c49] at H
                              have c49b0 : ((t184.extract (((rd_T39 t185 x9_1).f1) : Int).toNat ((wrap64 (((rd_T39 t185 x9_1).f1) + (((rd_T39 t185 x9_1).f2).size : Int))) : Int).toNat).toList == ((rd_T39 t185 x9_1).f2).toList) = false := beq_eq_false_iff_ne.mpr c49
                              (try (have c49u0_0 : ((t184.extract (((rd_T39 t185 x9_1).f1) : Int).toNat (((((rd_T39 t185 x9_1).f1) + (((rd_T39 t185 x9_1).f2).size : Int))) : Int).toNat).toList == ((rd_T39 t185 x9_1).f2).toList) = false := by have h_ := c49b0; rwa [show wrap64 (((rd_T39 t185 x9_1).f1) + (((rd_T39 t185 x9_1).f2).size : Int)) = (((rd_T39 t185 x9_1).f1) + (((rd_T39 t185 x9_1).f2).size : Int)) from by unfold wrap64; omega] at h_))
                              have c49b1 : ((t184.extract (((rd_T39 t185 x9_1).f1) : Int).toNat ((wrap64 (((rd_T39 t185 x9_1).f1) + (((rd_T39 t185 x9_1).f2).size : Int))) : Int).toNat).toList != ((rd_T39 t185 x9_1).f2).toList) = true := bne_iff_ne.mpr c49
                              (try (have c49u1_0 : ((t184.extract (((rd_T39 t185 x9_1).f1) : Int).toNat (((((rd_T39 t185 x9_1).f1) + (((rd_T39 t185 x9_1).f2).size : Int))) : Int).toNat).toList != ((rd_T39 t185 x9_1).f2).toList) = true := by have h_ := c49b1; rwa [show wrap64 (((rd_T39 t185 x9_1).f1) + (((rd_T39 t185 x9_1).f2).size : Int)) = (((rd_T39 t185 x9_1).f1) + (((rd_T39 t185 x9_1).f2).size : Int)) from by unfold wrap64; omega] at h_))
                              obtain rfl := Option.some.inj H
                              obtain ⟨Ao55, co55, eo55⟩ := Kd.R_slice HO_4.out
                              subst eo55
                              have p190 : 0 ≤ (x9_1 : Int) := of_decide_eq_true (by first | (with_reducible assumption) | assumption)
                              have q190 : x9_1 < (t185.length : Int) := of_decide_eq_true (by first | (with_reducible assumption) | assumption)
                              obtain ⟨ad190, e190, hx190_0, hx190_1, hx190_2⟩ := at_T39 (Kd.R_reads' HO_4.out).2.2 x9_1 p190 q190
                              cases e190
                              replace p190 := eq_true p190
                              replace q190 := eq_true q190
                              have p191 : 0 ≤ (x9_1 : Int) := of_decide_eq_true (by first | (with_reducible assumption) | assumption)
                              have q191 : x9_1 < (t185.length : Int) := of_decide_eq_true (by first | (with_reducible assumption) | assumption)
                              obtain ⟨ad191, e191, hx191_0, hx191_1, hx191_2⟩ := at_T39 (Kd.R_reads' HO_4.out).2.2 x9_1 p191 q191
                              obtain rfl : ad190 = ad191 := (by injection e191)
                              replace p191 := eq_true p191
                              replace q191 := eq_true q191
                              have p202 : 0 ≤ (x9_1 : Int) := of_decide_eq_true (by first | (with_reducible assumption) | assumption)
                              have q202 : x9_1 < (t185.length : Int) := of_decide_eq_true (by first | (with_reducible assumption) | assumption)
                              obtain ⟨ad202, e202, hx202_0, hx202_1, hx202_2⟩ := at_T39 (Kd.R_reads' HO_4.out).2.2 x9_1 p202 q202
                              obtain rfl : ad190 = ad202 := (by injection e202)
                              replace p202 := eq_true p202
                              replace q202 := eq_true q202
                              have p203 : 0 ≤ (x9_1 : Int) := of_decide_eq_true (by first | (with_reducible assumption) | assumption)
                              have q203 : x9_1 < (t185.length : Int) := of_decide_eq_true (by first | (with_reducible assumption) | assumption)
                              obtain ⟨ad203, e203, hx203_0, hx203_1, hx203_2⟩ := at_T39 (Kd.R_reads' HO_4.out).2.2 x9_1 p203 q203
                              obtain rfl : ad190 = ad203 := (by injection e203)
                              replace p203 := eq_true p203
                              replace q203 := eq_true q203
                              have p204 : 0 ≤ (x9_1 : Int) := of_decide_eq_true (by first | (with_reducible assumption) | assumption)
                              have q204 : x9_1 < (t185.length : Int) := of_decide_eq_true (by first | (with_reducible assumption) | assumption)
                              obtain ⟨ad204, e204, hx204_0, hx204_1, hx204_2⟩ := at_T39 (Kd.R_reads' HO_4.out).2.2 x9_1 p204 q204
                              obtain rfl : ad190 = ad204 := (by injection e204)
                              replace p204 := eq_true p204
                              replace q204 := eq_true q204
                              have p205 : 0 ≤ (x9_1 : Int) := of_decide_eq_true (by first | (with_reducible assumption) | assumption)
                              have q205 : x9_1 < (t185.length : Int) := of_decide_eq_true (by first | (with_reducible assumption) | assumption)
                              obtain ⟨ad205, e205, hx205_0, hx205_1, hx205_2⟩ := at_T39 (Kd.R_reads' HO_4.out).2.2 x9_1 p205 q205
                              obtain rfl : ad190 = ad205 := (by injection e205)
                              replace p205 := eq_true p205
                              replace q205 := eq_true q205
                              go_wp2
                              repeat (go_quiet (fail); try go_wp2)
                              go_ret
                              exact ⟨by first | rfl | (simp [errW_none, errW_some] <;> rfl) | (simp [*, errW_none, errW_some] <;> rfl), by repeat (first | (with_reducible first | exact HB.out | apply below_alloc | apply pw_below_drewN | apply below_drew1) | exact HB.out)⟩
                          · rw [if_neg c48] at H
                            exact absurd H (by simp)
                        · rw [if_neg c47] at H
                          exact absurd H (by simp)
                      · rw [if_neg c46] at H
                        exact absurd H (by simp)
            · rw [if_neg c11] at H
              exact absurd H (by simp)
          · rw [if_neg c10] at H
            have c10b0 : decide (x9_1 < (t185.length : Int)) = false := decide_eq_false c10
            clear c10
            by_cases c56 : (x7_1.size : Int) > 2000
            · rw [if_pos c56] at H
              have c56b0 : decide (2000 < (x7_1.size : Int)) = true := decide_eq_true c56
              have c56b1 : decide (2000 < x7_1.size) = true := decide_eq_true (by omega)
              clear c56
              obtain rfl := Option.some.inj H
              obtain ⟨Ao57, co57, eo57⟩ := Kd.R_slice HO_4.out
              subst eo57
              go_wp2
              repeat (go_quiet (fail); try go_wp2)
              go_ret
              exact ⟨by first | rfl | (simp [errW_none, errW_some] <;> rfl) | (simp [*, errW_none, errW_some] <;> rfl), by repeat (first | (with_reducible first | exact HB.out | apply below_alloc | apply pw_below_drewN | apply below_drew1) | exact HB.out)⟩
            · rw [if_neg c56] at H
              have c56b0 : decide (2000 < (x7_1.size : Int)) = false := decide_eq_false c56
              have c56b1 : decide (2000 < x7_1.size) = false := decide_eq_false (by omega)
              clear c56
              replace H := Option.bind_eq_some_iff.mp H
              obtain ⟨⟨t207, t208, t209⟩, A580, H⟩ := H
              replace H : (if t209 = 0 then (deadboltlaw5_LexAgain.j1 k1 t185 t207 ((t207.length : Int) != (t185.length : Int))) else (deadboltlaw5_LexAgain.j1 k1 t185 t207 true)) = some r := H
              have A58 := Aside0.mk A580
              clear A580
              have HC59 := Aside0.mk H
              clear H
              obtain ⟨Ao60, co60, eo60⟩ := Kd.R_slice HO_4.out
              subst eo60
              go_upto_region 24 with (first | (go_at_call 12; (with_reducible refine (lex_Tokens.calls x7_1 t207 t208 t209 _ A58.out).mono ?_); rintro e w61 ⟨v210, rfl, ho0, hb⟩; have n0_ := Aside0.mk (Kd.R_elder' (by (with_reducible repeat (first | apply Kd.R_alloc | apply Kd.R_drewN | apply Kd.R_drew)); exact HO_4.out) (Kd.R_base ho0) hb); have n1_ := Aside0.mk (Kd.R_lower (Kd.R_new' ho0 (Kd.R_lt (by (with_reducible repeat (first | apply Kd.R_alloc | apply Kd.R_drewN | apply Kd.R_drew)); exact HO_4.out))) (below_size (by repeat (first | (with_reducible first | exact HB.out | apply below_alloc | apply pw_below_drewN | apply below_drew1) | exact HB.out)))); have n2_ := Aside0.mk (below_step (by repeat (first | (with_reducible first | exact HB.out | apply below_alloc | apply pw_below_drewN | apply below_drew1) | exact HB.out)) hb); clear HO_4; clear HB; have HO_4 := n0_; have HO211 := n1_; have HB := n2_; clear n0_ n1_ n2_; (try clear hb); (try clear hb2); (try clear hk); (try clear hi); (try clear ho0)))
              repeat (go_quiet (first | (go_at_call 12; (with_reducible refine (lex_Tokens.calls x7_1 t207 t208 t209 _ A58.out).mono ?_); rintro e w61 ⟨v210, rfl, ho0, hb⟩; have n0_ := Aside0.mk (Kd.R_elder' (by (with_reducible repeat (first | apply Kd.R_alloc | apply Kd.R_drewN | apply Kd.R_drew)); exact HO_4.out) (Kd.R_base ho0) hb); have n1_ := Aside0.mk (Kd.R_lower (Kd.R_new' ho0 (Kd.R_lt (by (with_reducible repeat (first | apply Kd.R_alloc | apply Kd.R_drewN | apply Kd.R_drew)); exact HO_4.out))) (below_size (by repeat (first | (with_reducible first | exact HB.out | apply below_alloc | apply pw_below_drewN | apply below_drew1) | exact HB.out)))); have n2_ := Aside0.mk (below_step (by repeat (first | (with_reducible first | exact HB.out | apply below_alloc | apply pw_below_drewN | apply below_drew1) | exact HB.out)) hb); clear HO_4; clear HB; have HO_4 := n0_; have HO211 := n1_; have HB := n2_; clear n0_ n1_ n2_; (try clear hb); (try clear hb2); (try clear hk); (try clear hi); (try clear ho0))); go_upto_region 24 with (first | (go_at_call 12; (with_reducible refine (lex_Tokens.calls x7_1 t207 t208 t209 _ A58.out).mono ?_); rintro e w61 ⟨v210, rfl, ho0, hb⟩; have n0_ := Aside0.mk (Kd.R_elder' (by (with_reducible repeat (first | apply Kd.R_alloc | apply Kd.R_drewN | apply Kd.R_drew)); exact HO_4.out) (Kd.R_base ho0) hb); have n1_ := Aside0.mk (Kd.R_lower (Kd.R_new' ho0 (Kd.R_lt (by (with_reducible repeat (first | apply Kd.R_alloc | apply Kd.R_drewN | apply Kd.R_drew)); exact HO_4.out))) (below_size (by repeat (first | (with_reducible first | exact HB.out | apply below_alloc | apply pw_below_drewN | apply below_drew1) | exact HB.out)))); have n2_ := Aside0.mk (below_step (by repeat (first | (with_reducible first | exact HB.out | apply below_alloc | apply pw_below_drewN | apply below_drew1) | exact HB.out)) hb); clear HO_4; clear HB; have HO_4 := n0_; have HO211 := n1_; have HB := n2_; clear n0_ n1_ n2_; (try clear hb); (try clear hb2); (try clear hk); (try clear hi); (try clear ho0))))
              (try simp only [Act.put, List.setIfInBounds_toArray, List.set_cons_zero, List.set_cons_succ])
              go_cut [122] (fun v122 wc => ∃ (kq : Nat) (x122_58 : Bool), v122 = .bool x122_58 ∧ Aside0 (deadboltlaw5_LexAgain.j1 kq t185 t207 x122_58 = some r) ∧ Aside0 (kq ≤ k1) ∧ Aside0 (Kd.R k39 39 wc w.heap.size (fun k_ => some k_ ≠ (v210 : Value).ownBlock) (.slice Ao60 t185.length co60) t185) ∧ Aside0 (Kd.R k39 39 wc w.heap.size (fun k_ => some k_ ≠ ((.slice Ao60 t185.length co60) : Value).ownBlock) v210 t207) ∧ Aside0 (Below w.heap.size w wc))
              case first =>
                have H := HC59.out
                clear HC59
                by_cases c62 : t209 = 0
                · rw [if_pos c62] at H
                  have c62b0 : (t209 == 0) = true := beq_iff_eq.mpr c62
                  have c62b1 : (t209 != 0) = false := bne_eq_false_iff_eq.mpr c62
                  clear c62
                  (first | rw [c62b0] | (simp only [i64_w, i32_w]; rw [c62b0]) | skip)
                  have H' := Aside0.mk H
                  clear H
                  obtain ⟨Ao63, co63, eo63⟩ := Kd.R_slice HO211.out
                  subst eo63
                  go_wp2
                  repeat (go_quiet (fail); try go_wp2)
                  go_meet
                  case rel => exact ⟨_, (((t207.length : Int) != (t185.length : Int))), (by first | rfl | (simp; done) | (simp [*]; done)), H', ⟨by have := HK1.out; first | omega | exact Nat.le_refl _⟩, ⟨by (with_reducible repeat (first | apply Kd.R_alloc | apply Kd.R_drewN | apply Kd.R_drew)); exact Kd.R_mono HO_4.out (fun _ hk => hk.2)⟩, ⟨by (with_reducible repeat (first | apply Kd.R_alloc | apply Kd.R_drewN | apply Kd.R_drew)); exact Kd.R_mono HO211.out (fun _ hk => hk.2)⟩, ⟨by repeat (first | (with_reducible first | exact HB.out | apply below_alloc | apply pw_below_drewN | apply below_drew1) | exact HB.out)⟩⟩
                · rw [if_neg c62] at H
                  have c62b0 : (t209 == 0) = false := beq_eq_false_iff_ne.mpr c62
                  have c62b1 : (t209 != 0) = true := bne_iff_ne.mpr c62
                  (first | rw [c62b0] | (simp only [i64_w, i32_w]; rw [c62b0]) | skip)
                  have H' := Aside0.mk H
                  clear H
                  go_wp2
                  repeat (go_quiet (fail); try go_wp2)
                  go_meet
                  case rel => exact ⟨_, (true), (by first | rfl | (simp; done) | (simp [*]; done)), H', ⟨by have := HK1.out; first | omega | exact Nat.le_refl _⟩, ⟨by (with_reducible repeat (first | apply Kd.R_alloc | apply Kd.R_drewN | apply Kd.R_drew)); exact Kd.R_mono HO_4.out (fun _ hk => hk.2)⟩, ⟨by (with_reducible repeat (first | apply Kd.R_alloc | apply Kd.R_drewN | apply Kd.R_drew)); exact Kd.R_mono HO211.out (fun _ hk => hk.2)⟩, ⟨by repeat (first | (with_reducible first | exact HB.out | apply below_alloc | apply pw_below_drewN | apply below_drew1) | exact HB.out)⟩⟩
              case rest =>
                clear HC59
                try clear c1
                try clear p1
                try clear q1
                try clear hx1
                try clear c2
                try clear p2
                try clear q2
                try clear hx2
                try clear c3
                try clear c4
                try clear c5
                try clear c6
                try clear p6
                try clear c10
                try clear c10b0
                try clear c11
                try clear c12
                try clear c12b0
                try clear c12b1
                try clear c17
                try clear c18
                try clear c19
                try clear p19
                try clear q19
                try clear hx19
                try clear p20
                try clear q20
                try clear hx20
                try clear c27
                try clear c27b0
                try clear c27b1
                try clear c28
                try clear c28b0
                try clear c30
                try clear c30b0
                try clear c32
                try clear c32b0
                try clear c32b1
                try clear c33
                try clear c33b0
                try clear c33b1
                try clear c34
                try clear c34b0
                try clear c34b1
                try clear c35
                try clear c35b0
                try clear c35b1
                try clear c36
                try clear c36b0
                try clear c36b1
                try clear c38
                try clear c38b0
                try clear c38b1
                try clear c38b2
                try clear c39
                try clear c39b0
                try clear c39b1
                try clear c39b2
                try clear c42
                try clear c42b0
                try clear c44
                try clear c44b0
                try clear c46
                try clear c46b0
                try clear c46b1
                try clear c47
                try clear c47b0
                try clear c47b1
                try clear c48
                try clear c48b0
                try clear c48b1
                try clear c49
                try clear c49b0
                try clear c49b1
                try clear c50
                try clear c50b0
                try clear c50b1
                try clear c52
                try clear c52b0
                try clear c52b1
                try clear c52b2
                try clear c53
                try clear c53b0
                try clear c53b1
                try clear c53b2
                try clear c56
                try clear c56b0
                try clear c56b1
                try clear c62
                try clear c62b0
                try clear c62b1
                try clear hx190_0
                try clear hx190_1
                try clear hx190_2
                try clear hx191_0
                try clear hx191_1
                try clear hx191_2
                try clear hx195_0
                try clear hx195_1
                try clear hx195_2
                try clear hx197_0
                try clear hx197_1
                try clear hx197_2
                try clear hx198_0
                try clear hx198_1
                try clear hx198_2
                try clear hx199_0
                try clear hx199_1
                try clear hx199_2
                try clear hx200_0
                try clear hx200_1
                try clear hx200_2
                try clear hx201_0
                try clear hx201_1
                try clear hx201_2
                try clear hx202_0
                try clear hx202_1
                try clear hx202_2
                try clear hx203_0
                try clear hx203_1
                try clear hx203_2
                try clear hx204_0
                try clear hx204_1
                try clear hx204_2
                try clear hx205_0
                try clear hx205_1
                try clear hx205_2
                try clear hx206_0
                try clear hx206_1
                try clear hx206_2
                try clear p190
                try clear p191
                try clear p195
                try clear p197
                try clear p198
                try clear p199
                try clear p200
                try clear p201
                try clear p202
                try clear p203
                try clear p204
                try clear p205
                try clear p206
                try clear q190
                try clear q191
                try clear q195
                try clear q197
                try clear q198
                try clear q199
                try clear q200
                try clear q201
                try clear q202
                try clear q203
                try clear q204
                try clear q205
                try clear q206
                obtain ⟨kq, x122_58, rfl, HA, HJ58, HO_4, HO_11, HB⟩ := hcut
                cases kq with
                | zero => exact absurd HA.out (by simp [deadboltlaw5_LexAgain.j1])
                | succ kj58 =>
                  have H := HA.out
                  clear HA
                  simp only [deadboltlaw5_LexAgain.j1] at H
                  by_cases c64 : x122_58 = true
                  · subst c64
                    have H1 : (some false) = some r := by rw [if_pos rfl] at H; exact H
                    clear H
                    have H := H1
                    clear H1
                    obtain rfl := Option.some.inj H
                    go_wp2
                    repeat (go_quiet (fail); try go_wp2)
                    go_ret
                    exact ⟨by first | rfl | (simp [errW_none, errW_some] <;> rfl) | (simp [*, errW_none, errW_some] <;> rfl), by repeat (first | (with_reducible first | exact HB.out | apply below_alloc | apply pw_below_drewN | apply below_drew1) | exact HB.out)⟩
                  · replace c64 := Bool.eq_false_iff.mpr c64
                    subst c64
                    have H1 : (deadboltlaw5_LexAgain.l1 kj58 t185 t207 0) = some r := by rw [if_neg (show ¬ (false = true) by decide)] at H; exact H
                    clear H
                    have H := H1
                    clear H1
                    have H' := Aside0.mk H
                    clear H
                    go_wp2
                    repeat (go_quiet (fail); try go_wp2)
                    go_loopg [14] kj58 (fun kq v14 w' => ∃ (x14_3 : Int), v14 = .int .i64 x14_3 ∧ Aside0 (deadboltlaw5_LexAgain.l1 kq t185 t207 x14_3 = some r) ∧ Aside0 (kq ≤ kj58) ∧ Aside0 (Kd.R k39 39 w' w.heap.size (fun k_ => some k_ ≠ (v210 : Value).ownBlock) (.slice Ao60 t185.length co60) t185) ∧ Aside0 (Kd.R k39 39 w' w.heap.size (fun k_ => some k_ ≠ ((.slice Ao60 t185.length co60) : Value).ownBlock) v210 t207) ∧ Aside0 (Below w.heap.size w w'))
                    case atStart => exact ⟨(0), (by first | rfl | (simp; done) | (simp [*]; done)), H', ⟨Nat.le_refl _⟩, ⟨by (with_reducible repeat (first | apply Kd.R_alloc | apply Kd.R_drewN | apply Kd.R_drew)); exact HO_4.out⟩, ⟨by (with_reducible repeat (first | apply Kd.R_alloc | apply Kd.R_drewN | apply Kd.R_drew)); exact HO_11.out⟩, ⟨by repeat (first | (with_reducible first | exact HB.out | apply below_alloc | apply pw_below_drewN | apply below_drew1) | exact HB.out)⟩⟩
                    case round =>
                      clear H'
                      try clear c1
                      try clear p1
                      try clear q1
                      try clear hx1
                      try clear c2
                      try clear p2
                      try clear q2
                      try clear hx2
                      try clear c3
                      try clear c4
                      try clear c5
                      try clear c6
                      try clear p6
                      try clear c10
                      try clear c10b0
                      try clear c11
                      try clear c12
                      try clear c12b0
                      try clear c12b1
                      try clear c17
                      try clear c18
                      try clear c19
                      try clear p19
                      try clear q19
                      try clear hx19
                      try clear p20
                      try clear q20
                      try clear hx20
                      try clear c27
                      try clear c27b0
                      try clear c27b1
                      try clear c28
                      try clear c28b0
                      try clear c30
                      try clear c30b0
                      try clear c32
                      try clear c32b0
                      try clear c32b1
                      try clear c33
                      try clear c33b0
                      try clear c33b1
                      try clear c34
                      try clear c34b0
                      try clear c34b1
                      try clear c35
                      try clear c35b0
                      try clear c35b1
                      try clear c36
                      try clear c36b0
                      try clear c36b1
                      try clear c38
                      try clear c38b0
                      try clear c38b1
                      try clear c38b2
                      try clear c39
                      try clear c39b0
                      try clear c39b1
                      try clear c39b2
                      try clear c42
                      try clear c42b0
                      try clear c44
                      try clear c44b0
                      try clear c46
                      try clear c46b0
                      try clear c46b1
                      try clear c47
                      try clear c47b0
                      try clear c47b1
                      try clear c48
                      try clear c48b0
                      try clear c48b1
                      try clear c49
                      try clear c49b0
                      try clear c49b1
                      try clear c50
                      try clear c50b0
                      try clear c50b1
                      try clear c52
                      try clear c52b0
                      try clear c52b1
                      try clear c52b2
                      try clear c53
                      try clear c53b0
                      try clear c53b1
                      try clear c53b2
                      try clear c56
                      try clear c56b0
                      try clear c56b1
                      try clear c62
                      try clear c62b0
                      try clear c62b1
                      try clear c64
                      try clear p64
                      try clear hx190_0
                      try clear hx190_1
                      try clear hx190_2
                      try clear hx191_0
                      try clear hx191_1
                      try clear hx191_2
                      try clear hx195_0
                      try clear hx195_1
                      try clear hx195_2
                      try clear hx197_0
                      try clear hx197_1
                      try clear hx197_2
                      try clear hx198_0
                      try clear hx198_1
                      try clear hx198_2
                      try clear hx199_0
                      try clear hx199_1
                      try clear hx199_2
                      try clear hx200_0
                      try clear hx200_1
                      try clear hx200_2
                      try clear hx201_0
                      try clear hx201_1
                      try clear hx201_2
                      try clear hx202_0
                      try clear hx202_1
                      try clear hx202_2
                      try clear hx203_0
                      try clear hx203_1
                      try clear hx203_2
                      try clear hx204_0
                      try clear hx204_1
                      try clear hx204_2
                      try clear hx205_0
                      try clear hx205_1
                      try clear hx205_2
                      try clear hx206_0
                      try clear hx206_1
                      try clear hx206_2
                      try clear p1
                      try clear p19
                      try clear p190
                      try clear p191
                      try clear p195
                      try clear p197
                      try clear p198
                      try clear p199
                      try clear p2
                      try clear p20
                      try clear p200
                      try clear p201
                      try clear p202
                      try clear p203
                      try clear p204
                      try clear p205
                      try clear p206
                      try clear p6
                      try clear q1
                      try clear q19
                      try clear q190
                      try clear q191
                      try clear q195
                      try clear q197
                      try clear q198
                      try clear q199
                      try clear q2
                      try clear q20
                      try clear q200
                      try clear q201
                      try clear q202
                      try clear q203
                      try clear q204
                      try clear q205
                      try clear q206
                      obtain ⟨x14_3, rfl, HA, HK3, HO_4, HO_11, HB⟩ := hrel
                      cases gk with
                      | zero => exact absurd HA.out (by simp [deadboltlaw5_LexAgain.l1])
                      | succ k3 =>
                        have H := HA.out
                        clear HA
                        simp only [deadboltlaw5_LexAgain.l1] at H
                        by_cases c65 : x14_3 < (t207.length : Int)
                        · rw [if_pos c65] at H
                          have c65b0 : decide (x14_3 < (t207.length : Int)) = true := decide_eq_true c65
                          clear c65
                          by_cases c66 : 0 ≤ x14_3
                          · rw [if_pos c66] at H
                            have c66b0 : decide (0 ≤ x14_3) = true := decide_eq_true c66
                            clear c66
                            by_cases c67 : x14_3 < (t185.length : Int)
                            · rw [if_pos c67] at H
                              have c67b0 : decide (x14_3 < (t185.length : Int)) = true := decide_eq_true c67
                              clear c67
                              by_cases c68 : ((rd_T39 t207 x14_3).f0) = ((rd_T39 t185 x14_3).f0)
                              · rw [if_pos c68] at H
                                have c68b0 : (((rd_T39 t207 x14_3).f0) == ((rd_T39 t185 x14_3).f0)) = true := beq_iff_eq.mpr c68
                                have c68b1 : (((rd_T39 t207 x14_3).f0) != ((rd_T39 t185 x14_3).f0)) = false := bne_eq_false_iff_eq.mpr c68
                                clear c68
                                by_cases c69 : ((rd_T39 t207 x14_3).f2).toList = ((rd_T39 t185 x14_3).f2).toList
                                · rw [if_pos c69] at H
                                  have c69b0 : (((rd_T39 t207 x14_3).f2).toList == ((rd_T39 t185 x14_3).f2).toList) = true := beq_iff_eq.mpr c69
                                  have c69b1 : (((rd_T39 t207 x14_3).f2).toList != ((rd_T39 t185 x14_3).f2).toList) = false := bne_eq_false_iff_eq.mpr c69
                                  clear c69
                                  have H' := Aside0.mk H
                                  clear H
                                  obtain ⟨Ao70, co70, eo70⟩ := Kd.R_slice HO_11.out
                                  subst eo70
                                  have p212 : 0 ≤ (x14_3 : Int) := of_decide_eq_true (by first | (with_reducible assumption) | assumption)
                                  have q212 : x14_3 < (t207.length : Int) := of_decide_eq_true (by first | (with_reducible assumption) | assumption)
                                  obtain ⟨ad212, e212, hx212_0, hx212_1, hx212_2⟩ := at_T39 (Kd.R_reads' HO_11.out).2.2 x14_3 p212 q212
                                  cases e212
                                  replace p212 := eq_true p212
                                  replace q212 := eq_true q212
                                  have p213 : 0 ≤ (x14_3 : Int) := of_decide_eq_true (by first | (with_reducible assumption) | assumption)
                                  have q213 : x14_3 < (t185.length : Int) := of_decide_eq_true (by first | (with_reducible assumption) | assumption)
                                  obtain ⟨ad213, e213, hx213_0, hx213_1, hx213_2⟩ := at_T39 (Kd.R_reads' HO_4.out).2.2 x14_3 p213 q213
                                  cases e213
                                  replace p213 := eq_true p213
                                  replace q213 := eq_true q213
                                  have p214 : 0 ≤ (x14_3 : Int) := of_decide_eq_true (by first | (with_reducible assumption) | assumption)
                                  have q214 : x14_3 < (t207.length : Int) := of_decide_eq_true (by first | (with_reducible assumption) | assumption)
                                  obtain ⟨ad214, e214, hx214_0, hx214_1, hx214_2⟩ := at_T39 (Kd.R_reads' HO_11.out).2.2 x14_3 p214 q214
                                  obtain rfl : ad212 = ad214 := (by injection e214)
                                  replace p214 := eq_true p214
                                  replace q214 := eq_true q214
                                  have p215 : 0 ≤ (x14_3 : Int) := of_decide_eq_true (by first | (with_reducible assumption) | assumption)
                                  have q215 : x14_3 < (t185.length : Int) := of_decide_eq_true (by first | (with_reducible assumption) | assumption)
                                  obtain ⟨ad215, e215, hx215_0, hx215_1, hx215_2⟩ := at_T39 (Kd.R_reads' HO_4.out).2.2 x14_3 p215 q215
                                  obtain rfl : ad213 = ad215 := (by injection e215)
                                  replace p215 := eq_true p215
                                  replace q215 := eq_true q215
                                  go_wp2
                                  repeat (go_quiet (fail); try go_wp2)
                                  go_roundg k3
                                  case measure => have := HK1.out; have := HJ58.out; have := HK3.out; omega
                                  case rel => exact ⟨(wrap64 (x14_3 + 1)), (by first | rfl | (simp; done) | (simp [*]; done)), H', ⟨by have := HK1.out; have := HJ58.out; have := HK3.out; omega⟩, ⟨by (with_reducible repeat (first | apply Kd.R_alloc | apply Kd.R_drewN | apply Kd.R_drew)); exact HO_4.out⟩, ⟨by (with_reducible repeat (first | apply Kd.R_alloc | apply Kd.R_drewN | apply Kd.R_drew)); exact HO_11.out⟩, ⟨by repeat (first | (with_reducible first | exact HB.out | apply below_alloc | apply pw_below_drewN | apply below_drew1) | exact HB.out)⟩⟩
                                · rw [if_neg c69] at H
                                  have c69b0 : (((rd_T39 t207 x14_3).f2).toList == ((rd_T39 t185 x14_3).f2).toList) = false := beq_eq_false_iff_ne.mpr c69
                                  have c69b1 : (((rd_T39 t207 x14_3).f2).toList != ((rd_T39 t185 x14_3).f2).toList) = true := bne_iff_ne.mpr c69
                                  obtain rfl := Option.some.inj H
                                  obtain ⟨Ao71, co71, eo71⟩ := Kd.R_slice HO_11.out
                                  subst eo71
                                  have p212 : 0 ≤ (x14_3 : Int) := of_decide_eq_true (by first | (with_reducible assumption) | assumption)
                                  have q212 : x14_3 < (t207.length : Int) := of_decide_eq_true (by first | (with_reducible assumption) | assumption)
                                  obtain ⟨ad212, e212, hx212_0, hx212_1, hx212_2⟩ := at_T39 (Kd.R_reads' HO_11.out).2.2 x14_3 p212 q212
                                  cases e212
                                  replace p212 := eq_true p212
                                  replace q212 := eq_true q212
                                  have p213 : 0 ≤ (x14_3 : Int) := of_decide_eq_true (by first | (with_reducible assumption) | assumption)
                                  have q213 : x14_3 < (t185.length : Int) := of_decide_eq_true (by first | (with_reducible assumption) | assumption)
                                  obtain ⟨ad213, e213, hx213_0, hx213_1, hx213_2⟩ := at_T39 (Kd.R_reads' HO_4.out).2.2 x14_3 p213 q213
                                  cases e213
                                  replace p213 := eq_true p213
                                  replace q213 := eq_true q213
                                  have p214 : 0 ≤ (x14_3 : Int) := of_decide_eq_true (by first | (with_reducible assumption) | assumption)
                                  have q214 : x14_3 < (t207.length : Int) := of_decide_eq_true (by first | (with_reducible assumption) | assumption)
                                  obtain ⟨ad214, e214, hx214_0, hx214_1, hx214_2⟩ := at_T39 (Kd.R_reads' HO_11.out).2.2 x14_3 p214 q214
                                  obtain rfl : ad212 = ad214 := (by injection e214)
                                  replace p214 := eq_true p214
                                  replace q214 := eq_true q214
                                  have p215 : 0 ≤ (x14_3 : Int) := of_decide_eq_true (by first | (with_reducible assumption) | assumption)
                                  have q215 : x14_3 < (t185.length : Int) := of_decide_eq_true (by first | (with_reducible assumption) | assumption)
                                  obtain ⟨ad215, e215, hx215_0, hx215_1, hx215_2⟩ := at_T39 (Kd.R_reads' HO_4.out).2.2 x14_3 p215 q215
                                  obtain rfl : ad213 = ad215 := (by injection e215)
                                  replace p215 := eq_true p215
                                  replace q215 := eq_true q215
                                  go_wp2
                                  repeat (go_quiet (fail); try go_wp2)
                                  go_ret
                                  exact ⟨by first | rfl | (simp [errW_none, errW_some] <;> rfl) | (simp [*, errW_none, errW_some] <;> rfl), by repeat (first | (with_reducible first | exact HB.out | apply below_alloc | apply pw_below_drewN | apply below_drew1) | exact HB.out)⟩
                              · rw [if_neg c68] at H
                                have c68b0 : (((rd_T39 t207 x14_3).f0) == ((rd_T39 t185 x14_3).f0)) = false := beq_eq_false_iff_ne.mpr c68
                                have c68b1 : (((rd_T39 t207 x14_3).f0) != ((rd_T39 t185 x14_3).f0)) = true := bne_iff_ne.mpr c68
                                obtain rfl := Option.some.inj H
                                obtain ⟨Ao72, co72, eo72⟩ := Kd.R_slice HO_11.out
                                subst eo72
                                have p212 : 0 ≤ (x14_3 : Int) := of_decide_eq_true (by first | (with_reducible assumption) | assumption)
                                have q212 : x14_3 < (t207.length : Int) := of_decide_eq_true (by first | (with_reducible assumption) | assumption)
                                obtain ⟨ad212, e212, hx212_0, hx212_1, hx212_2⟩ := at_T39 (Kd.R_reads' HO_11.out).2.2 x14_3 p212 q212
                                cases e212
                                replace p212 := eq_true p212
                                replace q212 := eq_true q212
                                have p213 : 0 ≤ (x14_3 : Int) := of_decide_eq_true (by first | (with_reducible assumption) | assumption)
                                have q213 : x14_3 < (t185.length : Int) := of_decide_eq_true (by first | (with_reducible assumption) | assumption)
                                obtain ⟨ad213, e213, hx213_0, hx213_1, hx213_2⟩ := at_T39 (Kd.R_reads' HO_4.out).2.2 x14_3 p213 q213
                                cases e213
                                replace p213 := eq_true p213
                                replace q213 := eq_true q213
                                go_wp2
                                repeat (go_quiet (fail); try go_wp2)
                                go_ret
                                exact ⟨by first | rfl | (simp [errW_none, errW_some] <;> rfl) | (simp [*, errW_none, errW_some] <;> rfl), by repeat (first | (with_reducible first | exact HB.out | apply below_alloc | apply pw_below_drewN | apply below_drew1) | exact HB.out)⟩
                            · rw [if_neg c67] at H
                              exact absurd H (by simp)
                          · rw [if_neg c66] at H
                            exact absurd H (by simp)
                        · rw [if_neg c65] at H
                          have c65b0 : decide (x14_3 < (t207.length : Int)) = false := decide_eq_false c65
                          clear c65
                          obtain rfl := Option.some.inj H
                          obtain ⟨Ao73, co73, eo73⟩ := Kd.R_slice HO_11.out
                          subst eo73
                          go_wp2
                          repeat (go_quiet (fail); try go_wp2)
                          go_ret
                          exact ⟨by first | rfl | (simp [errW_none, errW_some] <;> rfl) | (simp [*, errW_none, errW_some] <;> rfl), by repeat (first | (with_reducible first | exact HB.out | apply below_alloc | apply pw_below_drewN | apply below_drew1) | exact HB.out)⟩
    · rw [if_neg c6] at H
      have c6b0 : (t187 == 0) = false := beq_eq_false_iff_ne.mpr c6
      have c6b1 : (t187 != 0) = true := bne_iff_ne.mpr c6
      obtain rfl := Option.some.inj H
      go_enter Tryd.func5, Tryd.ntmps5
      go_wp2_with (first | (go_at_call 9; (with_reducible refine (deadboltlaw5_known.calls  true _ A2.out (by first | exact HG.out | exact GL.drewN HG.out _ | exact GL.drewN (GL.drewN HG.out _) _ | exact GL.of_below HG.out (by repeat (first | (with_reducible first | exact HB.out | apply below_alloc | apply pw_below_drewN | apply below_drew1) | exact HB.out)))).mono ?_); rintro e w74 ⟨rfl, hb⟩; have n0_ := Aside0.mk (below_step (by repeat (first | (with_reducible first | exact HB.out | apply below_alloc | apply pw_below_drewN | apply below_drew1) | exact HB.out)) hb); clear HB; have HB := n0_; clear n0_; (try clear hb); (try clear hb2); (try clear hk); (try clear hi)) | (go_at_call 11; (with_reducible refine (deadboltlaw5_Text.calls k _ _ l0 t184 _ ?side1 ?side2 A4.out).mono ?_); (case side1 => repeat (first | exact (Kd.C_below HR0.out HB.out) | (with_reducible refine Kd.C_alloc ?_ _) | (with_reducible refine Kd.C_drewN ?_ _) | (with_reducible refine Kd.C_drew ?_))); (case side2 => exact HC0.out); rintro e w75 ⟨rfl, hb⟩; have n0_ := Aside0.mk (below_step (by repeat (first | (with_reducible first | exact HB.out | apply below_alloc | apply pw_below_drewN | apply below_drew1) | exact HB.out)) hb); clear HB; have HB := n0_; clear n0_; (try clear hb); (try clear hb2); (try clear hk); (try clear hi)) | (go_at_call 12; (with_reducible refine (lex_Tokens.calls t184 t185 t186 t187 _ A5.out).mono ?_); rintro e w76 ⟨v188, rfl, ho0, hb⟩; have n0_ := Aside0.mk (Kd.R_lower ho0 (below_size (by repeat (first | (with_reducible first | exact HB.out | apply below_alloc | apply pw_below_drewN | apply below_drew1) | exact HB.out)))); have n1_ := Aside0.mk (below_step (by repeat (first | (with_reducible first | exact HB.out | apply below_alloc | apply pw_below_drewN | apply below_drew1) | exact HB.out)) hb); clear HB; have HO189 := n0_; have HB := n1_; clear n0_ n1_; (try clear hb); (try clear hb2); (try clear hk); (try clear hi); (try clear ho0); obtain ⟨Ao77, co77, eo77⟩ := Kd.R_slice HO189.out; subst eo77))
      repeat (go_quiet (first | (go_at_call 9; (with_reducible refine (deadboltlaw5_known.calls  true _ A2.out (by first | exact HG.out | exact GL.drewN HG.out _ | exact GL.drewN (GL.drewN HG.out _) _ | exact GL.of_below HG.out (by repeat (first | (with_reducible first | exact HB.out | apply below_alloc | apply pw_below_drewN | apply below_drew1) | exact HB.out)))).mono ?_); rintro e w74 ⟨rfl, hb⟩; have n0_ := Aside0.mk (below_step (by repeat (first | (with_reducible first | exact HB.out | apply below_alloc | apply pw_below_drewN | apply below_drew1) | exact HB.out)) hb); clear HB; have HB := n0_; clear n0_; (try clear hb); (try clear hb2); (try clear hk); (try clear hi)) | (go_at_call 11; (with_reducible refine (deadboltlaw5_Text.calls k _ _ l0 t184 _ ?side1 ?side2 A4.out).mono ?_); (case side1 => repeat (first | exact (Kd.C_below HR0.out HB.out) | (with_reducible refine Kd.C_alloc ?_ _) | (with_reducible refine Kd.C_drewN ?_ _) | (with_reducible refine Kd.C_drew ?_))); (case side2 => exact HC0.out); rintro e w75 ⟨rfl, hb⟩; have n0_ := Aside0.mk (below_step (by repeat (first | (with_reducible first | exact HB.out | apply below_alloc | apply pw_below_drewN | apply below_drew1) | exact HB.out)) hb); clear HB; have HB := n0_; clear n0_; (try clear hb); (try clear hb2); (try clear hk); (try clear hi)) | (go_at_call 12; (with_reducible refine (lex_Tokens.calls t184 t185 t186 t187 _ A5.out).mono ?_); rintro e w76 ⟨v188, rfl, ho0, hb⟩; have n0_ := Aside0.mk (Kd.R_lower ho0 (below_size (by repeat (first | (with_reducible first | exact HB.out | apply below_alloc | apply pw_below_drewN | apply below_drew1) | exact HB.out)))); have n1_ := Aside0.mk (below_step (by repeat (first | (with_reducible first | exact HB.out | apply below_alloc | apply pw_below_drewN | apply below_drew1) | exact HB.out)) hb); clear HB; have HO189 := n0_; have HB := n1_; clear n0_ n1_; (try clear hb); (try clear hb2); (try clear hk); (try clear hi); (try clear ho0); obtain ⟨Ao77, co77, eo77⟩ := Kd.R_slice HO189.out; subst eo77)); try go_wp2_with (first | (go_at_call 9; (with_reducible refine (deadboltlaw5_known.calls  true _ A2.out (by first | exact HG.out | exact GL.drewN HG.out _ | exact GL.drewN (GL.drewN HG.out _) _ | exact GL.of_below HG.out (by repeat (first | (with_reducible first | exact HB.out | apply below_alloc | apply pw_below_drewN | apply below_drew1) | exact HB.out)))).mono ?_); rintro e w74 ⟨rfl, hb⟩; have n0_ := Aside0.mk (below_step (by repeat (first | (with_reducible first | exact HB.out | apply below_alloc | apply pw_below_drewN | apply below_drew1) | exact HB.out)) hb); clear HB; have HB := n0_; clear n0_; (try clear hb); (try clear hb2); (try clear hk); (try clear hi)) | (go_at_call 11; (with_reducible refine (deadboltlaw5_Text.calls k _ _ l0 t184 _ ?side1 ?side2 A4.out).mono ?_); (case side1 => repeat (first | exact (Kd.C_below HR0.out HB.out) | (with_reducible refine Kd.C_alloc ?_ _) | (with_reducible refine Kd.C_drewN ?_ _) | (with_reducible refine Kd.C_drew ?_))); (case side2 => exact HC0.out); rintro e w75 ⟨rfl, hb⟩; have n0_ := Aside0.mk (below_step (by repeat (first | (with_reducible first | exact HB.out | apply below_alloc | apply pw_below_drewN | apply below_drew1) | exact HB.out)) hb); clear HB; have HB := n0_; clear n0_; (try clear hb); (try clear hb2); (try clear hk); (try clear hi)) | (go_at_call 12; (with_reducible refine (lex_Tokens.calls t184 t185 t186 t187 _ A5.out).mono ?_); rintro e w76 ⟨v188, rfl, ho0, hb⟩; have n0_ := Aside0.mk (Kd.R_lower ho0 (below_size (by repeat (first | (with_reducible first | exact HB.out | apply below_alloc | apply pw_below_drewN | apply below_drew1) | exact HB.out)))); have n1_ := Aside0.mk (below_step (by repeat (first | (with_reducible first | exact HB.out | apply below_alloc | apply pw_below_drewN | apply below_drew1) | exact HB.out)) hb); clear HB; have HO189 := n0_; have HB := n1_; clear n0_ n1_; (try clear hb); (try clear hb2); (try clear hk); (try clear hi); (try clear ho0); obtain ⟨Ao77, co77, eo77⟩ := Kd.R_slice HO189.out; subst eo77)))
      go_ret
      exact ⟨by first | rfl | (simp [errW_none, errW_some] <;> rfl) | (simp [*, errW_none, errW_some] <;> rfl), by repeat (first | (with_reducible first | exact HB.out | apply below_alloc | apply pw_below_drewN | apply below_drew1) | exact HB.out)⟩
  · replace c3 := Bool.eq_false_iff.mpr c3
    subst c3
    have H1 : (some false) = some r := by rw [if_neg (show ¬ (false = true) by decide)] at H; exact H
    clear H
    have H := H1
    clear H1
    obtain rfl := Option.some.inj H
    go_enter Tryd.func5, Tryd.ntmps5
    go_wp2_with (first | (go_at_call 9; (with_reducible refine (deadboltlaw5_known.calls  false _ A2.out (by first | exact HG.out | exact GL.drewN HG.out _ | exact GL.drewN (GL.drewN HG.out _) _ | exact GL.of_below HG.out (by repeat (first | (with_reducible first | exact HB.out | apply below_alloc | apply pw_below_drewN | apply below_drew1) | exact HB.out)))).mono ?_); rintro e w78 ⟨rfl, hb⟩; have n0_ := Aside0.mk (below_step (by repeat (first | (with_reducible first | exact HB.out | apply below_alloc | apply pw_below_drewN | apply below_drew1) | exact HB.out)) hb); clear HB; have HB := n0_; clear n0_; (try clear hb); (try clear hb2); (try clear hk); (try clear hi)))
    repeat (go_quiet (first | (go_at_call 9; (with_reducible refine (deadboltlaw5_known.calls  false _ A2.out (by first | exact HG.out | exact GL.drewN HG.out _ | exact GL.drewN (GL.drewN HG.out _) _ | exact GL.of_below HG.out (by repeat (first | (with_reducible first | exact HB.out | apply below_alloc | apply pw_below_drewN | apply below_drew1) | exact HB.out)))).mono ?_); rintro e w78 ⟨rfl, hb⟩; have n0_ := Aside0.mk (below_step (by repeat (first | (with_reducible first | exact HB.out | apply below_alloc | apply pw_below_drewN | apply below_drew1) | exact HB.out)) hb); clear HB; have HB := n0_; clear n0_; (try clear hb); (try clear hb2); (try clear hk); (try clear hi))); try go_wp2_with (first | (go_at_call 9; (with_reducible refine (deadboltlaw5_known.calls  false _ A2.out (by first | exact HG.out | exact GL.drewN HG.out _ | exact GL.drewN (GL.drewN HG.out _) _ | exact GL.of_below HG.out (by repeat (first | (with_reducible first | exact HB.out | apply below_alloc | apply pw_below_drewN | apply below_drew1) | exact HB.out)))).mono ?_); rintro e w78 ⟨rfl, hb⟩; have n0_ := Aside0.mk (below_step (by repeat (first | (with_reducible first | exact HB.out | apply below_alloc | apply pw_below_drewN | apply below_drew1) | exact HB.out)) hb); clear HB; have HB := n0_; clear n0_; (try clear hb); (try clear hb2); (try clear hk); (try clear hi))))
    go_ret
    exact ⟨by first | rfl | (simp [errW_none, errW_some] <;> rfl) | (simp [*, errW_none, errW_some] <;> rfl), by repeat (first | (with_reducible first | exact HB.out | apply below_alloc | apply pw_below_drewN | apply below_drew1) | exact HB.out)⟩

/-- THE ONE PURE STATEMENT of deadboltlaw5_LexAgain: yours. -/
def deadboltlaw5_LexAgain.Pure : Prop := ∀ (l0 : List Int), l0.length ≤ maxLen → l0.length * 8 ≤ 140737488351232 → (∀ x ∈ l0, (Lit.int .i64 x).wf = true) → ∃ k, deadboltlaw5_LexAgain.f k l0 = some true
theorem deadboltlaw5_LexAgain.walk (P : deadboltlaw5_LexAgain.Pure) (a0 : Option Addr) (len0 cap0 : Nat) (z0 : List Int) (w : World) (w0 : (a0 = none ∧ len0 = 0 ∧ cap0 = 0 ∧ z0 = []) ∨ ∃ x, a0 = some x ∧ len0 ≤ cap0 ∧ cap0 ≤ maxLen ∧ z0.length = cap0 ∧ (∀ i, i < z0.length → w.cell? (x.add i) = some (.int .i64 (z0.getD i 0))) ∧ ∀ n ∈ z0, (Lit.int .i64 n).wf = true) (y0 : len0 * 8 ≤ 140737488351232) (hG : GL w) :
    Calls Tryd.prog 5 #[.slice a0 len0 cap0] w fun e w' => e = .returned (.bool true) ∧ Below w.heap.size w w' := by
  obtain ⟨l0, rfl, hr0, hm0, hw0, hc0⟩ := ReadsInt.ofRowC w0
  obtain ⟨k, h⟩ := P l0 hm0 y0 hw0
  refine (deadboltlaw5_LexAgain.calls k _ _ l0 true w (Kd.C_of_reads (d := (0 : Int)) (h1 := fun _ => rfl) hr0) hc0 h hG).mono ?_
  rintro e w' ⟨rfl, hd⟩
  exact ⟨rfl, hd⟩

end Go.Proofs.YtcabcedlnikbaaaDoor.Q
