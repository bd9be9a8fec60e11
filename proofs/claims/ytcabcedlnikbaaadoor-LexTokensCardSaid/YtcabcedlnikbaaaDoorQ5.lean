-- written by wip/xprint.py (over the kit's print.py) out of the translation. Not trusted: Lean checks it.
import Derived.Test.YtcabcedlnikbaaaDoorQ0
import Derived.Test.YtcabcedlnikbaaaDoorQ2
import Derived.Test.YtcabcedlnikbaaaDoorQ3
import Derived.Test.YtcabcedlnikbaaaDoorQ4
import Derived.Test.YtcabcedlnikbaaaDoorLexTok
namespace Go.Proofs.YtcabcedlnikbaaaDoor.Q
open Go.RowKit Go.Proofs.YtcabcedlnikbaaaDoorW.PrintWords Go.Proofs.YtcabcedlnikbaaaDoorW.PrintLast Go.Proofs.YtcabcedlnikbaaaDoorW.PrintMore
attribute [local go_sem] max2_int min2_int max_two min_two max_three min_three max_four min_four   -- for this text's walks alone
set_option linter.unusedVariables false
set_option linter.unusedSimpArgs false

/-! ### deadboltlaw5_LexTokens: function 3 -/
def deadboltlaw5_LexTokens.l0 : Nat → List ByteArray → Int → Option (Bool)
  | 0, _, _ => none
  | k + 1, x8, x9 => if x9 < (x8.length : Int) then (if 0 ≤ x9 then ((lex_Tokens.f (rdOf ByteArray.empty x8 x9)).bind fun bt147 => ((deadboltref5_Tokens.f k (rdOf ByteArray.empty x8 x9)).bind fun bt153 => (if bt147.2.2 = bt153.2.2 then (if bt147.2.1 = bt153.2.1 then ((deadboltlaw5_same.f k bt147.1 bt153.1).bind fun t158 => (if t158 = true then (deadboltlaw5_LexTokens.l0 k x8 (wrap64 (x9 + 1))) else (some false))) else (some false)) else (some false)))) else (none)) else (some true)
def deadboltlaw5_LexTokens.f (k : Nat) (l0 : List Int) (a1 : ByteArray) (a2 : Int) : Option (Bool) := (deadboltlaw5_known.f).bind fun t136 => (if t136 = true then (if (a1.size : Int) > 2100 then (some true) else ((deadboltlaw5_within.f a2 10).bind fun t137 => (if 0 ≤ (wrap64 (1995 + t137)) then (if (wrap64 (1995 + t137) : Int).toNat ≤ 281474976710656 then ((deadboltlaw5_Text.f k l0).bind fun t141 => ((deadboltlaw5_Text.f k l0).bind fun t142 => (if t142.size + a1.size ≤ 9223372036854775807 then (deadboltlaw5_LexTokens.l0 k (([t141, a1, t142 ++ a1, strOfNums (List.replicate (wrap64 (1995 + t137) : Int).toNat 0), (⟨#[]⟩ : ByteArray)] : List ByteArray)) 0) else (none)))) else (none)) else (none)))) else (some false))
theorem deadboltlaw5_LexTokens.mono_l : ∀ k, (∀ y0 y1, LeO (deadboltlaw5_LexTokens.l0 k y0 y1) (deadboltlaw5_LexTokens.l0 (k + 1) y0 y1))
  | 0 => fun _ _ r h => by simp [deadboltlaw5_LexTokens.l0] at h
  | k + 1 => by
    have ih0 := deadboltlaw5_LexTokens.mono_l k
    · intro y0 y1
      unfold deadboltlaw5_LexTokens.l0
      repeat' first
      | (with_reducible exact ih0 _ _)
      | (with_reducible exact deadboltlaw5_Text.mono _ _)
      | (with_reducible exact deadboltlaw5_same.mono _ _ _)
      | (with_reducible exact deadboltref5_Tokens.mono _ _)
      | (with_reducible exact LeO.refl _)
      | (with_reducible exact LeO.none _)
      | (with_reducible refine LeO.ite ?_ ?_)
      | (with_reducible refine LeO.bind ?_ (fun _ => ?_))
      | exact ih0 _ _
      | exact deadboltlaw5_Text.mono _ _
      | exact deadboltlaw5_same.mono _ _ _
      | exact deadboltref5_Tokens.mono _ _
      | exact LeO.none _
      | refine LeO.ite ?_ ?_
      | refine LeO.bind ?_ (fun _ => ?_)
theorem deadboltlaw5_LexTokens.mono : ∀ a0 a1 a2 k, LeO (deadboltlaw5_LexTokens.f k a0 a1 a2) (deadboltlaw5_LexTokens.f (k + 1) a0 a1 a2) := by
  intro a0 a1 a2 k
  have ih0 := deadboltlaw5_LexTokens.mono_l k
  unfold deadboltlaw5_LexTokens.f
  repeat' first
      | (with_reducible exact ih0 _ _)
      | (with_reducible exact deadboltlaw5_Text.mono _ _)
      | (with_reducible exact deadboltlaw5_same.mono _ _ _)
      | (with_reducible exact deadboltref5_Tokens.mono _ _)
      | (with_reducible exact LeO.refl _)
      | (with_reducible exact LeO.none _)
      | (with_reducible refine LeO.ite ?_ ?_)
      | (with_reducible refine LeO.bind ?_ (fun _ => ?_))
      | exact ih0 _ _
      | exact deadboltlaw5_Text.mono _ _
      | exact deadboltlaw5_same.mono _ _ _
      | exact deadboltref5_Tokens.mono _ _
      | exact LeO.none _
      | refine LeO.ite ?_ ?_
      | refine LeO.bind ?_ (fun _ => ?_)
set_option maxHeartbeats 8000000 in
set_option maxRecDepth 100000 in
theorem deadboltlaw5_LexTokens.calls (k : Nat) (A0 : Option Addr) (c0 : Nat) (l0 : List Int) (a1 : ByteArray) (a2 : Int) (r : Bool) (w : World) (hr0 : Kd.C (Kd.int .i64) w A0 l0.length l0) (hc0 : l0.length ≤ c0) (h : deadboltlaw5_LexTokens.f k l0 a1 a2 = some r) (hG : GL w) :
    Calls Tryd.prog 3 #[.slice A0 l0.length c0, .string a1, .int .i64 a2] w fun e w' => e = .returned (.bool r) ∧ Below w.heap.size w w' := by
  have HG := Aside0.mk hG
  clear hG
  have HR0 := Aside0.mk hr0
  have HC0 := Aside0.mk hc0
  clear hr0 hc0
  have HB := Aside0.mk (Below.refl w.heap.size w)
  have H : ((deadboltlaw5_known.f).bind fun t136 => (if t136 = true then (if (a1.size : Int) > 2100 then (some true) else ((deadboltlaw5_within.f a2 10).bind fun t137 => (if 0 ≤ (wrap64 (1995 + t137)) then (if (wrap64 (1995 + t137) : Int).toNat ≤ 281474976710656 then ((deadboltlaw5_Text.f k l0).bind fun t141 => ((deadboltlaw5_Text.f k l0).bind fun t142 => (if t142.size + a1.size ≤ 9223372036854775807 then (deadboltlaw5_LexTokens.l0 k (([t141, a1, t142 ++ a1, strOfNums (List.replicate (wrap64 (1995 + t137) : Int).toNat 0), (⟨#[]⟩ : ByteArray)] : List ByteArray)) 0) else (none)))) else (none)) else (none)))) else (some false))) = some r := h
  clear h
  replace H := Option.bind_eq_some_iff.mp H
  obtain ⟨t136, A40, H⟩ := H
  replace H : (if t136 = true then (if (a1.size : Int) > 2100 then (some true) else ((deadboltlaw5_within.f a2 10).bind fun t137 => (if 0 ≤ (wrap64 (1995 + t137)) then (if (wrap64 (1995 + t137) : Int).toNat ≤ 281474976710656 then ((deadboltlaw5_Text.f k l0).bind fun t141 => ((deadboltlaw5_Text.f k l0).bind fun t142 => (if t142.size + a1.size ≤ 9223372036854775807 then (deadboltlaw5_LexTokens.l0 k (([t141, a1, t142 ++ a1, strOfNums (List.replicate (wrap64 (1995 + t137) : Int).toNat 0), (⟨#[]⟩ : ByteArray)] : List ByteArray)) 0) else (none)))) else (none)) else (none)))) else (some false)) = some r := H
  have A4 := Aside0.mk A40
  clear A40
  by_cases c5 : t136 = true
  · subst c5
    have H1 : (if (a1.size : Int) > 2100 then (some true) else ((deadboltlaw5_within.f a2 10).bind fun t137 => (if 0 ≤ (wrap64 (1995 + t137)) then (if (wrap64 (1995 + t137) : Int).toNat ≤ 281474976710656 then ((deadboltlaw5_Text.f k l0).bind fun t141 => ((deadboltlaw5_Text.f k l0).bind fun t142 => (if t142.size + a1.size ≤ 9223372036854775807 then (deadboltlaw5_LexTokens.l0 k (([t141, a1, t142 ++ a1, strOfNums (List.replicate (wrap64 (1995 + t137) : Int).toNat 0), (⟨#[]⟩ : ByteArray)] : List ByteArray)) 0) else (none)))) else (none)) else (none)))) = some r := by rw [if_pos rfl] at H; exact H
    clear H
    have H := H1
    clear H1
    by_cases c6 : (a1.size : Int) > 2100
    · rw [if_pos c6] at H
      have c6b0 : decide (2100 < (a1.size : Int)) = true := decide_eq_true c6
      have c6b1 : decide (2100 < a1.size) = true := decide_eq_true (by omega)
      clear c6
      obtain rfl := Option.some.inj H
      go_enter Tryd.func3, Tryd.ntmps3
      go_wp2_with (first | ((with_reducible refine gate_callee (f := 9) rfl ?_); refine goesL_ (some 16) rfl rfl Tryd.func9 (by kernel_rfl) rfl #[] rfl (by (try simp only [List.map_toArray, List.map_cons, List.map_nil]); first | done | rfl | (simp only [List.length_drop, List.length_take]; rfl)) ?_; (with_reducible refine (deadboltlaw5_known.calls  true _ A4.out (by first | exact HG.out | exact GL.drewN HG.out _ | exact GL.drewN (GL.drewN HG.out _) _ | exact GL.of_below HG.out (by repeat (first | (with_reducible first | exact HB.out | apply below_alloc | apply pw_below_drewN | apply below_drew1) | exact HB.out)))).mono ?_); rintro e w7 ⟨rfl, hb⟩; refine ⟨_, rfl, ?_⟩; have n0_ := Aside0.mk (below_step (by repeat (first | (with_reducible first | exact HB.out | apply below_alloc | apply pw_below_drewN | apply below_drew1) | exact HB.out)) hb); clear HB; have HB := n0_; clear n0_; (try clear hb); (try clear hb2); (try clear hk); (try clear hi)))
      go_ret
      exact ⟨by first | rfl | (simp [errW_none, errW_some] <;> rfl) | (simp [*, errW_none, errW_some] <;> rfl), by repeat (first | (with_reducible first | exact HB.out | apply below_alloc | apply pw_below_drewN | apply below_drew1) | exact HB.out)⟩
    · rw [if_neg c6] at H
      have c6b0 : decide (2100 < (a1.size : Int)) = false := decide_eq_false c6
      have c6b1 : decide (2100 < a1.size) = false := decide_eq_false (by omega)
      clear c6
      replace H := Option.bind_eq_some_iff.mp H
      obtain ⟨t137, A80, H⟩ := H
      replace H : (if 0 ≤ (wrap64 (1995 + t137)) then (if (wrap64 (1995 + t137) : Int).toNat ≤ 281474976710656 then ((deadboltlaw5_Text.f k l0).bind fun t141 => ((deadboltlaw5_Text.f k l0).bind fun t142 => (if t142.size + a1.size ≤ 9223372036854775807 then (deadboltlaw5_LexTokens.l0 k (([t141, a1, t142 ++ a1, strOfNums (List.replicate (wrap64 (1995 + t137) : Int).toNat 0), (⟨#[]⟩ : ByteArray)] : List ByteArray)) 0) else (none)))) else (none)) else (none)) = some r := H
      have A8 := Aside0.mk A80
      clear A80
      obtain ⟨ji9, hji9⟩ : ∃ j_ : Int, (wrap64 (1995 + t137)) = j_ := ⟨_, rfl⟩
      replace H : (if 0 ≤ (ji9) then (if (ji9 : Int).toNat ≤ 281474976710656 then ((deadboltlaw5_Text.f k l0).bind fun t141 => ((deadboltlaw5_Text.f k l0).bind fun t142 => (if t142.size + a1.size ≤ 9223372036854775807 then (deadboltlaw5_LexTokens.l0 k (([t141, a1, t142 ++ a1, strOfNums (List.replicate (ji9 : Int).toNat 0), (⟨#[]⟩ : ByteArray)] : List ByteArray)) 0) else (none)))) else (none)) else (none)) = some r := by first | (rw [hji9] at H; exact H) | (simp only [hji9] at H ⊢; exact H)
      (try rw [hji9] at A4)
      (try rw [hji9] at A8)
      have hji9w : (IntKind.i64.wrap (1995 + t137)) = ji9 := (i64_w _).trans hji9
      by_cases c10 : 0 ≤ (ji9)
      · rw [if_pos c10] at H
        have c10b0 := eq_true c10
        have c10b1 : decide (0 ≤ (ji9)) = true := decide_eq_true c10
        clear c10
        by_cases c11 : (ji9 : Int).toNat ≤ 281474976710656
        · rw [if_pos c11] at H
          have c11b0 := eq_true c11
          have c11b1 : decide ((ji9 : Int).toNat ≤ 281474976710656) = true := decide_eq_true c11
          clear c11
          obtain ⟨y138, hy138⟩ : ∃ y_ : List Int, y_ = (List.replicate (ji9 : Int).toNat 0) := ⟨_, rfl⟩
          replace H : ((deadboltlaw5_Text.f k l0).bind fun t141 => ((deadboltlaw5_Text.f k l0).bind fun t142 => (if t142.size + a1.size ≤ 9223372036854775807 then (deadboltlaw5_LexTokens.l0 k (([t141, a1, t142 ++ a1, strOfNums y138, (⟨#[]⟩ : ByteArray)] : List ByteArray)) 0) else (none)))) = some r := by first | (rw [hy138]; with_reducible exact H) | (have H2_ := (Option.bind_some _ _).symm.trans H; rw [hy138]; with_reducible exact H2_) | (have H2_ := (Option.bind_some _ _).symm.trans H; with_reducible exact H2_) | with_reducible exact H | (rw [hy138]; exact H) | exact H
          have Ny138 := Aside0.mk hy138
          clear hy138
          replace H := Option.bind_eq_some_iff.mp H
          obtain ⟨t141, A120, H⟩ := H
          replace H : ((deadboltlaw5_Text.f k l0).bind fun t142 => (if t142.size + a1.size ≤ 9223372036854775807 then (deadboltlaw5_LexTokens.l0 k (([t141, a1, t142 ++ a1, strOfNums y138, (⟨#[]⟩ : ByteArray)] : List ByteArray)) 0) else (none))) = some r := H
          have A12 := Aside0.mk A120
          clear A120
          replace H := Option.bind_eq_some_iff.mp H
          obtain ⟨t142, A130, H⟩ := H
          replace H : (if t142.size + a1.size ≤ 9223372036854775807 then (deadboltlaw5_LexTokens.l0 k (([t141, a1, t142 ++ a1, strOfNums y138, (⟨#[]⟩ : ByteArray)] : List ByteArray)) 0) else (none)) = some r := H
          have A13 := Aside0.mk A130
          clear A130
          by_cases c14 : t142.size + a1.size ≤ 9223372036854775807
          · rw [if_pos c14] at H
            have c14b0 := eq_true c14
            have c14b1 : decide (t142.size + a1.size ≤ 9223372036854775807) = true := decide_eq_true c14
            try have c14b2 : (9223372036854775807 < t142.size + a1.size) = False := eq_false (Nat.not_lt.2 c14)
            obtain ⟨y143, hy143⟩ : ∃ y_ : List ByteArray, y_ = (([t141, a1, t142 ++ a1, strOfNums y138, (⟨#[]⟩ : ByteArray)] : List ByteArray)) := ⟨_, rfl⟩
            replace H : (deadboltlaw5_LexTokens.l0 k y143 0) = some r := by first | (rw [hy143]; with_reducible exact H) | (have H2_ := (Option.bind_some _ _).symm.trans H; rw [hy143]; with_reducible exact H2_) | (have H2_ := (Option.bind_some _ _).symm.trans H; with_reducible exact H2_) | with_reducible exact H | (rw [hy143]; exact H) | exact H
            have Ny143 := Aside0.mk hy143
            clear hy143
            have H' := Aside0.mk H
            clear H
            go_enter Tryd.func3, Tryd.ntmps3
            go_wp2_with (first | ((with_reducible refine gate_callee (f := 9) rfl ?_); refine goesL_ (some 16) rfl rfl Tryd.func9 (by kernel_rfl) rfl #[] rfl (by (try simp only [List.map_toArray, List.map_cons, List.map_nil]); first | done | rfl | (simp only [List.length_drop, List.length_take]; rfl)) ?_; (with_reducible refine (deadboltlaw5_known.calls  true _ A4.out (by first | exact HG.out | exact GL.drewN HG.out _ | exact GL.drewN (GL.drewN HG.out _) _ | exact GL.of_below HG.out (by repeat (first | (with_reducible first | exact HB.out | apply below_alloc | apply pw_below_drewN | apply below_drew1) | exact HB.out)))).mono ?_); rintro e w15 ⟨rfl, hb⟩; refine ⟨_, rfl, ?_⟩; have n0_ := Aside0.mk (below_step (by repeat (first | (with_reducible first | exact HB.out | apply below_alloc | apply pw_below_drewN | apply below_drew1) | exact HB.out)) hb); clear HB; have HB := n0_; clear n0_; (try clear hb); (try clear hb2); (try clear hk); (try clear hi)) | ((with_reducible refine gate_callee (f := 10) rfl ?_); refine goesL_ (some 22) rfl rfl Tryd.func10 (by kernel_rfl) rfl #[.int .i64 a2, .int .i64 10] rfl (by (try simp only [List.map_toArray, List.map_cons, List.map_nil]); first | done | rfl | (simp only [List.length_drop, List.length_take]; rfl)) ?_; (with_reducible refine (deadboltlaw5_within.calls a2 10 t137 _ A8.out).mono ?_); rintro e w' ⟨rfl, ⟨nd, rfl⟩⟩; refine ⟨_, rfl, ?_⟩) | ((with_reducible refine gate_dst (N := 24) rfl ?_); refine Kd.R_make (Kd.int .u8) _ 5 rfl (N := 24) rfl 24 _ _ rfl ji9 rfl rfl Tryd.underlying24 (.int .u8 0) 1 info5 rfl (by decide) (by omega) 0 (ok := fun _ => True) (okp := fun _ => True) rfl (fun _ hk => hk) trivial (of_decide_eq_true (by first | (with_reducible assumption) | assumption)) (Nat.le_trans (Nat.mul_le_mul_right _ (of_decide_eq_true (by first | (with_reducible assumption) | assumption) : ji9.toNat ≤ 281474976710656)) (by omega)) (Below.refl _ _) (Nat.le_refl _) ?_; intro v139 w16 ho17 hb hg_ hnew_; clear hg_ hnew_; (first | rw [← Ny138.out] at ho17 | (simp only [Int.reduceToNat] at ho17; rw [← Ny138.out] at ho17)); have n0_ := Aside0.mk (Kd.R_lower ho17 (below_size (by repeat (first | (with_reducible first | exact HB.out | apply below_alloc | apply pw_below_drewN | apply below_drew1) | exact HB.out)))); have n1_ := Aside0.mk (below_step (by repeat (first | (with_reducible first | exact HB.out | apply below_alloc | apply pw_below_drewN | apply below_drew1) | exact HB.out)) hb); clear HB; have HO140 := n0_; have HB := n1_; clear n0_ n1_; clear hb ho17; have hcv18 := own_string (P := Tryd.prog) Tryd.underlying24 Tryd.underlying5 Tryd.underlying9 (Kd.own_of_R HO140.out)) | ((with_reducible refine gate_callee (f := 11) rfl ?_); refine goesL_ (some 27) rfl rfl Tryd.func11 (by kernel_rfl) rfl #[.slice A0 l0.length c0] rfl (by (try simp only [List.map_toArray, List.map_cons, List.map_nil]); first | done | rfl | (simp only [List.length_drop, List.length_take]; rfl)) ?_; (with_reducible refine (deadboltlaw5_Text.calls k _ _ l0 t141 _ ?side1 ?side2 A12.out).mono ?_); (case side1 => repeat (first | exact (Kd.C_below HR0.out HB.out) | (with_reducible refine Kd.C_alloc ?_ _) | (with_reducible refine Kd.C_drewN ?_ _) | (with_reducible refine Kd.C_drew ?_))); (case side2 => exact HC0.out); rintro e w19 ⟨rfl, hb⟩; refine ⟨_, rfl, ?_⟩; have n0_ := Aside0.mk (Kd.R_below (by (with_reducible repeat (first | apply Kd.R_alloc | apply Kd.R_drewN | apply Kd.R_drew)); exact HO140.out) hb); have n1_ := Aside0.mk (below_step (by repeat (first | (with_reducible first | exact HB.out | apply below_alloc | apply pw_below_drewN | apply below_drew1) | exact HB.out)) hb); clear HO140; clear HB; have HO140 := n0_; have HB := n1_; clear n0_ n1_; (try clear hb); (try clear hb2); (try clear hk); (try clear hi)) | ((with_reducible refine gate_callee (f := 11) rfl ?_); refine goesL_ (some 30) rfl rfl Tryd.func11 (by kernel_rfl) rfl #[.slice A0 l0.length c0] rfl (by (try simp only [List.map_toArray, List.map_cons, List.map_nil]); first | done | rfl | (simp only [List.length_drop, List.length_take]; rfl)) ?_; (with_reducible refine (deadboltlaw5_Text.calls k _ _ l0 t142 _ ?side1 ?side2 A13.out).mono ?_); (case side1 => repeat (first | exact (Kd.C_below HR0.out HB.out) | (with_reducible refine Kd.C_alloc ?_ _) | (with_reducible refine Kd.C_drewN ?_ _) | (with_reducible refine Kd.C_drew ?_))); (case side2 => exact HC0.out); rintro e w20 ⟨rfl, hb⟩; refine ⟨_, rfl, ?_⟩; have n0_ := Aside0.mk (Kd.R_below (by (with_reducible repeat (first | apply Kd.R_alloc | apply Kd.R_drewN | apply Kd.R_drew)); exact HO140.out) hb); have n1_ := Aside0.mk (below_step (by repeat (first | (with_reducible first | exact HB.out | apply below_alloc | apply pw_below_drewN | apply below_drew1) | exact HB.out)) hb); clear HO140; clear HB; have HO140 := n0_; have HB := n1_; clear n0_ n1_; (try clear hb); (try clear hb2); (try clear hk); (try clear hi)) | ((with_reducible refine gate_dst (N := 34) rfl ?_); refine Kd.R_lit Kd.string _ 9 ?hg (N := 34) ?hd (xs := ([t141, a1, t142 ++ a1, strOfNums y138, (⟨#[]⟩ : ByteArray)] : List ByteArray)) (inner := [.string t141, .string a1, .string (t142 ++ a1), .string (strOfNums y138), .string (⟨#[]⟩ : ByteArray)]) (ok := fun _ => True) (okp := fun _ => True) ?hr ?hp (fun _ hk => hk) trivial (Below.refl _ _) (Nat.le_refl _) (by simp) ?_; (case hd => rfl); (case hg => rfl); (case hr => first | (go_simp; done) | (go_simp; rfl)); (case hp => exact (Reps.one (show Kd.M Kd.string _ _ _ t141 [.string t141] from rfl) (Reps.one (show Kd.M Kd.string _ _ _ a1 [.string a1] from rfl) (Reps.one (show Kd.M Kd.string _ _ _ (t142 ++ a1) [.string (t142 ++ a1)] from rfl) (Reps.one (show Kd.M Kd.string _ _ _ (strOfNums y138) [.string (strOfNums y138)] from rfl) (Reps.one (show Kd.M Kd.string _ _ _ (⟨#[]⟩ : ByteArray) [.string (⟨#[]⟩ : ByteArray)] from rfl) (Reps.none _ _))))))); intro v144 w21 ho22 hb hg_ hnew_; clear hg_ hnew_; (first | rw [← Ny143.out] at ho22 | (simp only [Int.reduceToNat] at ho22; rw [← Ny143.out] at ho22)); have n0_ := Aside0.mk (Kd.R_below (by (with_reducible repeat (first | apply Kd.R_alloc | apply Kd.R_drewN | apply Kd.R_drew)); exact HO140.out) hb); have n1_ := Aside0.mk (Kd.R_lower ho22 (below_size (by repeat (first | (with_reducible first | exact HB.out | apply below_alloc | apply pw_below_drewN | apply below_drew1) | exact HB.out)))); have n2_ := Aside0.mk (below_step (by repeat (first | (with_reducible first | exact HB.out | apply below_alloc | apply pw_below_drewN | apply below_drew1) | exact HB.out)) hb); clear HO140; clear HB; have HO140 := n0_; have HO145 := n1_; have HB := n2_; clear n0_ n1_ n2_; clear hb ho22))
            go_loopg [9] k (fun kq v9 w' => ∃ (x9_1 : Int), v9 = .int .i64 x9_1 ∧ Aside0 (deadboltlaw5_LexTokens.l0 kq y143 x9_1 = some r) ∧ Aside0 (kq ≤ k) ∧ Aside0 (Kd.R Kd.string 9 w' w.heap.size (fun _ => True) v144 y143) ∧ Aside0 (Below w.heap.size w w'))
            case atStart => exact ⟨(0), (by first | rfl | (simp; done) | (simp [*]; done)), H', ⟨Nat.le_refl _⟩, ⟨by (with_reducible repeat (first | apply Kd.R_alloc | apply Kd.R_drewN | apply Kd.R_drew)); exact HO145.out⟩, ⟨by repeat (first | (with_reducible first | exact HB.out | apply below_alloc | apply pw_below_drewN | apply below_drew1) | exact HB.out)⟩⟩
            case round =>
              clear H'
              try clear c1
              try clear hcv1
              try clear p2
              try clear c3
              try clear c5
              try clear c6
              try clear c6b0
              try clear c6b1
              try clear p6
              try clear c9
              try clear c10
              try clear c10b0
              try clear c10b1
              try clear c11
              try clear c11b0
              try clear c11b1
              try clear c14
              try clear c14b0
              try clear c14b1
              try clear c14b2
              try clear hcv18
              obtain ⟨x9_1, rfl, HA, HK1, HO_8, HB⟩ := hrel
              cases gk with
              | zero => exact absurd HA.out (by simp [deadboltlaw5_LexTokens.l0])
              | succ k1 =>
                have H := HA.out
                clear HA
                simp only [deadboltlaw5_LexTokens.l0] at H
                by_cases c23 : x9_1 < (y143.length : Int)
                · rw [if_pos c23] at H
                  have c23b0 : decide (x9_1 < (y143.length : Int)) = true := decide_eq_true c23
                  clear c23
                  by_cases c24 : 0 ≤ x9_1
                  · rw [if_pos c24] at H
                    have c24b0 : decide (0 ≤ x9_1) = true := decide_eq_true c24
                    clear c24
                    replace H := Option.bind_eq_some_iff.mp H
                    obtain ⟨⟨t147, t148, t149⟩, A250, H⟩ := H
                    replace H : ((deadboltref5_Tokens.f k1 (rdOf ByteArray.empty y143 x9_1)).bind fun bt153 => (if t149 = bt153.2.2 then (if t148 = bt153.2.1 then ((deadboltlaw5_same.f k1 t147 bt153.1).bind fun t158 => (if t158 = true then (deadboltlaw5_LexTokens.l0 k1 y143 (wrap64 (x9_1 + 1))) else (some false))) else (some false)) else (some false))) = some r := H
                    have A25 := Aside0.mk A250
                    clear A250
                    replace H := Option.bind_eq_some_iff.mp H
                    obtain ⟨⟨t153, t154, t155⟩, A260, H⟩ := H
                    replace H : (if t149 = t155 then (if t148 = t154 then ((deadboltlaw5_same.f k1 t147 t153).bind fun t158 => (if t158 = true then (deadboltlaw5_LexTokens.l0 k1 y143 (wrap64 (x9_1 + 1))) else (some false))) else (some false)) else (some false)) = some r := H
                    have A26 := Aside0.mk A260
                    clear A260
                    by_cases c27 : t149 = t155
                    · rw [if_pos c27] at H
                      have c27b0 : (t149 == t155) = true := beq_iff_eq.mpr c27
                      have c27b1 : (t149 != t155) = false := bne_eq_false_iff_eq.mpr c27
                      clear c27
                      by_cases c28 : t148 = t154
                      · rw [if_pos c28] at H
                        have c28b0 : (t148 == t154) = true := beq_iff_eq.mpr c28
                        have c28b1 : (t148 != t154) = false := bne_eq_false_iff_eq.mpr c28
                        clear c28
                        replace H := Option.bind_eq_some_iff.mp H
                        obtain ⟨t158, A290, H⟩ := H
                        replace H : (if t158 = true then (deadboltlaw5_LexTokens.l0 k1 y143 (wrap64 (x9_1 + 1))) else (some false)) = some r := H
                        have A29 := Aside0.mk A290
                        clear A290
                        by_cases c30 : t158 = true
                        · subst c30
                          have H1 : (deadboltlaw5_LexTokens.l0 k1 y143 (wrap64 (x9_1 + 1))) = some r := by rw [if_pos rfl] at H; exact H
                          clear H
                          have H := H1
                          clear H1
                          have H' := Aside0.mk H
                          clear H
                          obtain ⟨Ao31, co31, eo31⟩ := Kd.R_slice HO_8.out
                          subst eo31
                          have p146 : 0 ≤ (x9_1 : Int) := of_decide_eq_true (by first | (with_reducible assumption) | assumption)
                          have q146 : x9_1 < (y143.length : Int) := of_decide_eq_true (by first | (with_reducible assumption) | assumption)
                          obtain ⟨ad146, e146, hx146_0⟩ := Kd.at_string (Kd.R_reads' HO_8.out).2.2 x9_1 p146 q146
                          cases e146
                          replace p146 := eq_true p146
                          replace q146 := eq_true q146
                          go_wp2_with (first | ((with_reducible refine gate_callee (f := 12) rfl ?_); refine goesL_ (some 46) rfl rfl Tryd.func12 (by kernel_rfl) rfl #[.string (rdOf ByteArray.empty y143 x9_1)] rfl (by (try simp only [List.map_toArray, List.map_cons, List.map_nil]); first | done | rfl | (simp only [List.length_drop, List.length_take]; rfl)) ?_; (with_reducible refine (lex_Tokens.calls (rdOf ByteArray.empty y143 x9_1) t147 t148 t149 _ A25.out).mono ?_); rintro e w32 ⟨v150, rfl, ho0, hb⟩; refine ⟨_, rfl, ?_⟩; have n0_ := Aside0.mk (Kd.R_below (by (with_reducible repeat (first | apply Kd.R_alloc | apply Kd.R_drewN | apply Kd.R_drew)); exact HO_8.out) hb); have n1_ := Aside0.mk (Kd.R_lower ho0 (below_size (by repeat (first | (with_reducible first | exact HB.out | apply below_alloc | apply pw_below_drewN | apply below_drew1) | exact HB.out)))); have n2_ := Aside0.mk (below_step (by repeat (first | (with_reducible first | exact HB.out | apply below_alloc | apply pw_below_drewN | apply below_drew1) | exact HB.out)) hb); clear HO_8; clear HB; have HO_8 := n0_; have HO151 := n1_; have HB := n2_; clear n0_ n1_ n2_; (try clear hb); (try clear hb2); (try clear hk); (try clear hi); (try clear ho0); have p152 : 0 ≤ (x9_1 : Int) := of_decide_eq_true (by first | (with_reducible assumption) | assumption); have q152 : x9_1 < (y143.length : Int) := of_decide_eq_true (by first | (with_reducible assumption) | assumption); obtain ⟨ad152, e152, hx152_0⟩ := Kd.at_string (Kd.R_reads' HO_8.out).2.2 x9_1 p152 q152; obtain rfl : ad146 = ad152 := (by injection e152); replace p152 := eq_true p152; replace q152 := eq_true q152) | ((with_reducible refine gate_callee (f := 13) rfl ?_); refine goesL_ (some 55) rfl rfl Tryd.func13 (by kernel_rfl) rfl #[.string (rdOf ByteArray.empty y143 x9_1)] rfl (by (try simp only [List.map_toArray, List.map_cons, List.map_nil]); first | done | rfl | (simp only [List.length_drop, List.length_take]; rfl)) ?_; (with_reducible refine (deadboltref5_Tokens.calls k1 (rdOf ByteArray.empty y143 x9_1) t153 t154 t155 _ A26.out).mono ?_); rintro e w33 ⟨v156, rfl, ho0, hb⟩; refine ⟨_, rfl, ?_⟩; have n0_ := Aside0.mk (Kd.R_below (by (with_reducible repeat (first | apply Kd.R_alloc | apply Kd.R_drewN | apply Kd.R_drew)); exact HO_8.out) hb); have n1_ := Aside0.mk (Kd.R_elder' (by (with_reducible repeat (first | apply Kd.R_alloc | apply Kd.R_drewN | apply Kd.R_drew)); exact HO151.out) (Kd.R_base ho0) hb); have n2_ := Aside0.mk (Kd.R_lower (Kd.R_new' ho0 (Kd.R_lt (by (with_reducible repeat (first | apply Kd.R_alloc | apply Kd.R_drewN | apply Kd.R_drew)); exact HO151.out))) (below_size (by repeat (first | (with_reducible first | exact HB.out | apply below_alloc | apply pw_below_drewN | apply below_drew1) | exact HB.out)))); have n3_ := Aside0.mk (below_step (by repeat (first | (with_reducible first | exact HB.out | apply below_alloc | apply pw_below_drewN | apply below_drew1) | exact HB.out)) hb); clear HO_8; clear HO151; clear HB; have HO_8 := n0_; have HO151 := n1_; have HO157 := n2_; have HB := n3_; clear n0_ n1_ n2_ n3_; (try clear hb); (try clear hb2); (try clear hk); (try clear hi); (try clear ho0); obtain ⟨Ao34, co34, eo34⟩ := Kd.R_slice HO151.out; subst eo34; obtain ⟨Ao35, co35, eo35⟩ := Kd.R_slice HO157.out; subst eo35) | (go_at_call 14; (with_reducible refine (deadboltlaw5_same.calls k1 _ _ t147 _ _ t153 true _ ?side1 ?side2 ?side3 ?side4 A29.out).mono ?_); (case side1 => repeat (first | exact (Kd.R_reads' HO151.out).2.2 | (with_reducible refine Kd.C_alloc ?_ _) | (with_reducible refine Kd.C_drewN ?_ _) | (with_reducible refine Kd.C_drew ?_))); (case side2 => exact (Kd.R_reads' HO151.out).2.1); (case side3 => repeat (first | exact (Kd.R_reads' HO157.out).2.2 | (with_reducible refine Kd.C_alloc ?_ _) | (with_reducible refine Kd.C_drewN ?_ _) | (with_reducible refine Kd.C_drew ?_))); (case side4 => exact (Kd.R_reads' HO157.out).2.1); rintro e w' ⟨rfl, ⟨nd, rfl⟩⟩))
                          go_roundg k1
                          case measure => have := HK1.out; omega
                          case rel => exact ⟨(wrap64 (x9_1 + 1)), (by first | rfl | (simp; done) | (simp [*]; done)), H', ⟨by have := HK1.out; omega⟩, ⟨by (with_reducible repeat (first | apply Kd.R_alloc | apply Kd.R_drewN | apply Kd.R_drew)); exact HO_8.out⟩, ⟨by repeat (first | (with_reducible first | exact HB.out | apply below_alloc | apply pw_below_drewN | apply below_drew1) | exact HB.out)⟩⟩
                        · replace c30 := Bool.eq_false_iff.mpr c30
                          subst c30
                          have H1 : (some false) = some r := by rw [if_neg (show ¬ (false = true) by decide)] at H; exact H
                          clear H
                          have H := H1
                          clear H1
                          obtain rfl := Option.some.inj H
                          obtain ⟨Ao36, co36, eo36⟩ := Kd.R_slice HO_8.out
                          subst eo36
                          have p146 : 0 ≤ (x9_1 : Int) := of_decide_eq_true (by first | (with_reducible assumption) | assumption)
                          have q146 : x9_1 < (y143.length : Int) := of_decide_eq_true (by first | (with_reducible assumption) | assumption)
                          obtain ⟨ad146, e146, hx146_0⟩ := Kd.at_string (Kd.R_reads' HO_8.out).2.2 x9_1 p146 q146
                          cases e146
                          replace p146 := eq_true p146
                          replace q146 := eq_true q146
                          go_wp2_with (first | ((with_reducible refine gate_callee (f := 12) rfl ?_); refine goesL_ (some 46) rfl rfl Tryd.func12 (by kernel_rfl) rfl #[.string (rdOf ByteArray.empty y143 x9_1)] rfl (by (try simp only [List.map_toArray, List.map_cons, List.map_nil]); first | done | rfl | (simp only [List.length_drop, List.length_take]; rfl)) ?_; (with_reducible refine (lex_Tokens.calls (rdOf ByteArray.empty y143 x9_1) t147 t148 t149 _ A25.out).mono ?_); rintro e w37 ⟨v150, rfl, ho0, hb⟩; refine ⟨_, rfl, ?_⟩; have n0_ := Aside0.mk (Kd.R_below (by (with_reducible repeat (first | apply Kd.R_alloc | apply Kd.R_drewN | apply Kd.R_drew)); exact HO_8.out) hb); have n1_ := Aside0.mk (Kd.R_lower ho0 (below_size (by repeat (first | (with_reducible first | exact HB.out | apply below_alloc | apply pw_below_drewN | apply below_drew1) | exact HB.out)))); have n2_ := Aside0.mk (below_step (by repeat (first | (with_reducible first | exact HB.out | apply below_alloc | apply pw_below_drewN | apply below_drew1) | exact HB.out)) hb); clear HO_8; clear HB; have HO_8 := n0_; have HO151 := n1_; have HB := n2_; clear n0_ n1_ n2_; (try clear hb); (try clear hb2); (try clear hk); (try clear hi); (try clear ho0); have p152 : 0 ≤ (x9_1 : Int) := of_decide_eq_true (by first | (with_reducible assumption) | assumption); have q152 : x9_1 < (y143.length : Int) := of_decide_eq_true (by first | (with_reducible assumption) | assumption); obtain ⟨ad152, e152, hx152_0⟩ := Kd.at_string (Kd.R_reads' HO_8.out).2.2 x9_1 p152 q152; obtain rfl : ad146 = ad152 := (by injection e152); replace p152 := eq_true p152; replace q152 := eq_true q152) | ((with_reducible refine gate_callee (f := 13) rfl ?_); refine goesL_ (some 55) rfl rfl Tryd.func13 (by kernel_rfl) rfl #[.string (rdOf ByteArray.empty y143 x9_1)] rfl (by (try simp only [List.map_toArray, List.map_cons, List.map_nil]); first | done | rfl | (simp only [List.length_drop, List.length_take]; rfl)) ?_; (with_reducible refine (deadboltref5_Tokens.calls k1 (rdOf ByteArray.empty y143 x9_1) t153 t154 t155 _ A26.out).mono ?_); rintro e w38 ⟨v156, rfl, ho0, hb⟩; refine ⟨_, rfl, ?_⟩; have n0_ := Aside0.mk (Kd.R_below (by (with_reducible repeat (first | apply Kd.R_alloc | apply Kd.R_drewN | apply Kd.R_drew)); exact HO_8.out) hb); have n1_ := Aside0.mk (Kd.R_elder' (by (with_reducible repeat (first | apply Kd.R_alloc | apply Kd.R_drewN | apply Kd.R_drew)); exact HO151.out) (Kd.R_base ho0) hb); have n2_ := Aside0.mk (Kd.R_lower (Kd.R_new' ho0 (Kd.R_lt (by (with_reducible repeat (first | apply Kd.R_alloc | apply Kd.R_drewN | apply Kd.R_drew)); exact HO151.out))) (below_size (by repeat (first | (with_reducible first | exact HB.out | apply below_alloc | apply pw_below_drewN | apply below_drew1) | exact HB.out)))); have n3_ := Aside0.mk (below_step (by repeat (first | (with_reducible first | exact HB.out | apply below_alloc | apply pw_below_drewN | apply below_drew1) | exact HB.out)) hb); clear HO_8; clear HO151; clear HB; have HO_8 := n0_; have HO151 := n1_; have HO157 := n2_; have HB := n3_; clear n0_ n1_ n2_ n3_; (try clear hb); (try clear hb2); (try clear hk); (try clear hi); (try clear ho0); obtain ⟨Ao39, co39, eo39⟩ := Kd.R_slice HO151.out; subst eo39; obtain ⟨Ao40, co40, eo40⟩ := Kd.R_slice HO157.out; subst eo40) | (go_at_call 14; (with_reducible refine (deadboltlaw5_same.calls k1 _ _ t147 _ _ t153 false _ ?side1 ?side2 ?side3 ?side4 A29.out).mono ?_); (case side1 => repeat (first | exact (Kd.R_reads' HO151.out).2.2 | (with_reducible refine Kd.C_alloc ?_ _) | (with_reducible refine Kd.C_drewN ?_ _) | (with_reducible refine Kd.C_drew ?_))); (case side2 => exact (Kd.R_reads' HO151.out).2.1); (case side3 => repeat (first | exact (Kd.R_reads' HO157.out).2.2 | (with_reducible refine Kd.C_alloc ?_ _) | (with_reducible refine Kd.C_drewN ?_ _) | (with_reducible refine Kd.C_drew ?_))); (case side4 => exact (Kd.R_reads' HO157.out).2.1); rintro e w' ⟨rfl, ⟨nd, rfl⟩⟩))
                          go_ret
                          exact ⟨by first | rfl | (simp [errW_none, errW_some] <;> rfl) | (simp only [← hji9]; first | rfl | (simp [errW_none, errW_some] <;> rfl)) | (simp [*, errW_none, errW_some] <;> rfl), by repeat (first | (with_reducible first | exact HB.out | apply below_alloc | apply pw_below_drewN | apply below_drew1) | exact HB.out)⟩
                      · rw [if_neg c28] at H
                        have c28b0 : (t148 == t154) = false := beq_eq_false_iff_ne.mpr c28
                        have c28b1 : (t148 != t154) = true := bne_iff_ne.mpr c28
                        obtain rfl := Option.some.inj H
                        obtain ⟨Ao41, co41, eo41⟩ := Kd.R_slice HO_8.out
                        subst eo41
                        have p146 : 0 ≤ (x9_1 : Int) := of_decide_eq_true (by first | (with_reducible assumption) | assumption)
                        have q146 : x9_1 < (y143.length : Int) := of_decide_eq_true (by first | (with_reducible assumption) | assumption)
                        obtain ⟨ad146, e146, hx146_0⟩ := Kd.at_string (Kd.R_reads' HO_8.out).2.2 x9_1 p146 q146
                        cases e146
                        replace p146 := eq_true p146
                        replace q146 := eq_true q146
                        go_wp2_with (first | ((with_reducible refine gate_callee (f := 12) rfl ?_); refine goesL_ (some 46) rfl rfl Tryd.func12 (by kernel_rfl) rfl #[.string (rdOf ByteArray.empty y143 x9_1)] rfl (by (try simp only [List.map_toArray, List.map_cons, List.map_nil]); first | done | rfl | (simp only [List.length_drop, List.length_take]; rfl)) ?_; (with_reducible refine (lex_Tokens.calls (rdOf ByteArray.empty y143 x9_1) t147 t148 t149 _ A25.out).mono ?_); rintro e w42 ⟨v150, rfl, ho0, hb⟩; refine ⟨_, rfl, ?_⟩; have n0_ := Aside0.mk (Kd.R_below (by (with_reducible repeat (first | apply Kd.R_alloc | apply Kd.R_drewN | apply Kd.R_drew)); exact HO_8.out) hb); have n1_ := Aside0.mk (Kd.R_lower ho0 (below_size (by repeat (first | (with_reducible first | exact HB.out | apply below_alloc | apply pw_below_drewN | apply below_drew1) | exact HB.out)))); have n2_ := Aside0.mk (below_step (by repeat (first | (with_reducible first | exact HB.out | apply below_alloc | apply pw_below_drewN | apply below_drew1) | exact HB.out)) hb); clear HO_8; clear HB; have HO_8 := n0_; have HO151 := n1_; have HB := n2_; clear n0_ n1_ n2_; (try clear hb); (try clear hb2); (try clear hk); (try clear hi); (try clear ho0); have p152 : 0 ≤ (x9_1 : Int) := of_decide_eq_true (by first | (with_reducible assumption) | assumption); have q152 : x9_1 < (y143.length : Int) := of_decide_eq_true (by first | (with_reducible assumption) | assumption); obtain ⟨ad152, e152, hx152_0⟩ := Kd.at_string (Kd.R_reads' HO_8.out).2.2 x9_1 p152 q152; obtain rfl : ad146 = ad152 := (by injection e152); replace p152 := eq_true p152; replace q152 := eq_true q152) | ((with_reducible refine gate_callee (f := 13) rfl ?_); refine goesL_ (some 55) rfl rfl Tryd.func13 (by kernel_rfl) rfl #[.string (rdOf ByteArray.empty y143 x9_1)] rfl (by (try simp only [List.map_toArray, List.map_cons, List.map_nil]); first | done | rfl | (simp only [List.length_drop, List.length_take]; rfl)) ?_; (with_reducible refine (deadboltref5_Tokens.calls k1 (rdOf ByteArray.empty y143 x9_1) t153 t154 t155 _ A26.out).mono ?_); rintro e w43 ⟨v156, rfl, ho0, hb⟩; refine ⟨_, rfl, ?_⟩; have n0_ := Aside0.mk (Kd.R_below (by (with_reducible repeat (first | apply Kd.R_alloc | apply Kd.R_drewN | apply Kd.R_drew)); exact HO_8.out) hb); have n1_ := Aside0.mk (Kd.R_elder' (by (with_reducible repeat (first | apply Kd.R_alloc | apply Kd.R_drewN | apply Kd.R_drew)); exact HO151.out) (Kd.R_base ho0) hb); have n2_ := Aside0.mk (Kd.R_lower (Kd.R_new' ho0 (Kd.R_lt (by (with_reducible repeat (first | apply Kd.R_alloc | apply Kd.R_drewN | apply Kd.R_drew)); exact HO151.out))) (below_size (by repeat (first | (with_reducible first | exact HB.out | apply below_alloc | apply pw_below_drewN | apply below_drew1) | exact HB.out)))); have n3_ := Aside0.mk (below_step (by repeat (first | (with_reducible first | exact HB.out | apply below_alloc | apply pw_below_drewN | apply below_drew1) | exact HB.out)) hb); clear HO_8; clear HO151; clear HB; have HO_8 := n0_; have HO151 := n1_; have HO157 := n2_; have HB := n3_; clear n0_ n1_ n2_ n3_; (try clear hb); (try clear hb2); (try clear hk); (try clear hi); (try clear ho0)))
                        go_ret
                        exact ⟨by first | rfl | (simp [errW_none, errW_some] <;> rfl) | (simp only [← hji9]; first | rfl | (simp [errW_none, errW_some] <;> rfl)) | (simp [*, errW_none, errW_some] <;> rfl), by repeat (first | (with_reducible first | exact HB.out | apply below_alloc | apply pw_below_drewN | apply below_drew1) | exact HB.out)⟩
                    · rw [if_neg c27] at H
                      have c27b0 : (t149 == t155) = false := beq_eq_false_iff_ne.mpr c27
                      have c27b1 : (t149 != t155) = true := bne_iff_ne.mpr c27
                      obtain rfl := Option.some.inj H
                      obtain ⟨Ao44, co44, eo44⟩ := Kd.R_slice HO_8.out
                      subst eo44
                      have p146 : 0 ≤ (x9_1 : Int) := of_decide_eq_true (by first | (with_reducible assumption) | assumption)
                      have q146 : x9_1 < (y143.length : Int) := of_decide_eq_true (by first | (with_reducible assumption) | assumption)
                      obtain ⟨ad146, e146, hx146_0⟩ := Kd.at_string (Kd.R_reads' HO_8.out).2.2 x9_1 p146 q146
                      cases e146
                      replace p146 := eq_true p146
                      replace q146 := eq_true q146
                      go_wp2_with (first | ((with_reducible refine gate_callee (f := 12) rfl ?_); refine goesL_ (some 46) rfl rfl Tryd.func12 (by kernel_rfl) rfl #[.string (rdOf ByteArray.empty y143 x9_1)] rfl (by (try simp only [List.map_toArray, List.map_cons, List.map_nil]); first | done | rfl | (simp only [List.length_drop, List.length_take]; rfl)) ?_; (with_reducible refine (lex_Tokens.calls (rdOf ByteArray.empty y143 x9_1) t147 t148 t149 _ A25.out).mono ?_); rintro e w45 ⟨v150, rfl, ho0, hb⟩; refine ⟨_, rfl, ?_⟩; have n0_ := Aside0.mk (Kd.R_below (by (with_reducible repeat (first | apply Kd.R_alloc | apply Kd.R_drewN | apply Kd.R_drew)); exact HO_8.out) hb); have n1_ := Aside0.mk (Kd.R_lower ho0 (below_size (by repeat (first | (with_reducible first | exact HB.out | apply below_alloc | apply pw_below_drewN | apply below_drew1) | exact HB.out)))); have n2_ := Aside0.mk (below_step (by repeat (first | (with_reducible first | exact HB.out | apply below_alloc | apply pw_below_drewN | apply below_drew1) | exact HB.out)) hb); clear HO_8; clear HB; have HO_8 := n0_; have HO151 := n1_; have HB := n2_; clear n0_ n1_ n2_; (try clear hb); (try clear hb2); (try clear hk); (try clear hi); (try clear ho0); have p152 : 0 ≤ (x9_1 : Int) := of_decide_eq_true (by first | (with_reducible assumption) | assumption); have q152 : x9_1 < (y143.length : Int) := of_decide_eq_true (by first | (with_reducible assumption) | assumption); obtain ⟨ad152, e152, hx152_0⟩ := Kd.at_string (Kd.R_reads' HO_8.out).2.2 x9_1 p152 q152; obtain rfl : ad146 = ad152 := (by injection e152); replace p152 := eq_true p152; replace q152 := eq_true q152) | ((with_reducible refine gate_callee (f := 13) rfl ?_); refine goesL_ (some 55) rfl rfl Tryd.func13 (by kernel_rfl) rfl #[.string (rdOf ByteArray.empty y143 x9_1)] rfl (by (try simp only [List.map_toArray, List.map_cons, List.map_nil]); first | done | rfl | (simp only [List.length_drop, List.length_take]; rfl)) ?_; (with_reducible refine (deadboltref5_Tokens.calls k1 (rdOf ByteArray.empty y143 x9_1) t153 t154 t155 _ A26.out).mono ?_); rintro e w46 ⟨v156, rfl, ho0, hb⟩; refine ⟨_, rfl, ?_⟩; have n0_ := Aside0.mk (Kd.R_below (by (with_reducible repeat (first | apply Kd.R_alloc | apply Kd.R_drewN | apply Kd.R_drew)); exact HO_8.out) hb); have n1_ := Aside0.mk (Kd.R_elder' (by (with_reducible repeat (first | apply Kd.R_alloc | apply Kd.R_drewN | apply Kd.R_drew)); exact HO151.out) (Kd.R_base ho0) hb); have n2_ := Aside0.mk (Kd.R_lower (Kd.R_new' ho0 (Kd.R_lt (by (with_reducible repeat (first | apply Kd.R_alloc | apply Kd.R_drewN | apply Kd.R_drew)); exact HO151.out))) (below_size (by repeat (first | (with_reducible first | exact HB.out | apply below_alloc | apply pw_below_drewN | apply below_drew1) | exact HB.out)))); have n3_ := Aside0.mk (below_step (by repeat (first | (with_reducible first | exact HB.out | apply below_alloc | apply pw_below_drewN | apply below_drew1) | exact HB.out)) hb); clear HO_8; clear HO151; clear HB; have HO_8 := n0_; have HO151 := n1_; have HO157 := n2_; have HB := n3_; clear n0_ n1_ n2_ n3_; (try clear hb); (try clear hb2); (try clear hk); (try clear hi); (try clear ho0)))
                      go_ret
                      exact ⟨by first | rfl | (simp [errW_none, errW_some] <;> rfl) | (simp only [← hji9]; first | rfl | (simp [errW_none, errW_some] <;> rfl)) | (simp [*, errW_none, errW_some] <;> rfl), by repeat (first | (with_reducible first | exact HB.out | apply below_alloc | apply pw_below_drewN | apply below_drew1) | exact HB.out)⟩
                  · rw [if_neg c24] at H
                    exact absurd H (by simp)
                · rw [if_neg c23] at H
                  have c23b0 : decide (x9_1 < (y143.length : Int)) = false := decide_eq_false c23
                  clear c23
                  obtain rfl := Option.some.inj H
                  obtain ⟨Ao47, co47, eo47⟩ := Kd.R_slice HO_8.out
                  subst eo47
                  go_wp2
                  go_ret
                  exact ⟨by first | rfl | (simp [errW_none, errW_some] <;> rfl) | (simp only [← hji9]; first | rfl | (simp [errW_none, errW_some] <;> rfl)) | (simp [*, errW_none, errW_some] <;> rfl), by repeat (first | (with_reducible first | exact HB.out | apply below_alloc | apply pw_below_drewN | apply below_drew1) | exact HB.out)⟩
          · rw [if_neg c14] at H
            exact absurd H (by simp)
        · rw [if_neg c11] at H
          exact absurd H (by simp)
      · rw [if_neg c10] at H
        exact absurd H (by simp)
  · replace c5 := Bool.eq_false_iff.mpr c5
    subst c5
    have H1 : (some false) = some r := by rw [if_neg (show ¬ (false = true) by decide)] at H; exact H
    clear H
    have H := H1
    clear H1
    obtain rfl := Option.some.inj H
    go_enter Tryd.func3, Tryd.ntmps3
    go_wp2_with (first | ((with_reducible refine gate_callee (f := 9) rfl ?_); refine goesL_ (some 16) rfl rfl Tryd.func9 (by kernel_rfl) rfl #[] rfl (by (try simp only [List.map_toArray, List.map_cons, List.map_nil]); first | done | rfl | (simp only [List.length_drop, List.length_take]; rfl)) ?_; (with_reducible refine (deadboltlaw5_known.calls  false _ A4.out (by first | exact HG.out | exact GL.drewN HG.out _ | exact GL.drewN (GL.drewN HG.out _) _ | exact GL.of_below HG.out (by repeat (first | (with_reducible first | exact HB.out | apply below_alloc | apply pw_below_drewN | apply below_drew1) | exact HB.out)))).mono ?_); rintro e w48 ⟨rfl, hb⟩; refine ⟨_, rfl, ?_⟩; have n0_ := Aside0.mk (below_step (by repeat (first | (with_reducible first | exact HB.out | apply below_alloc | apply pw_below_drewN | apply below_drew1) | exact HB.out)) hb); clear HB; have HB := n0_; clear n0_; (try clear hb); (try clear hb2); (try clear hk); (try clear hi)))
    go_ret
    exact ⟨by first | rfl | (simp [errW_none, errW_some] <;> rfl) | (simp [*, errW_none, errW_some] <;> rfl), by repeat (first | (with_reducible first | exact HB.out | apply below_alloc | apply pw_below_drewN | apply below_drew1) | exact HB.out)⟩

/-- THE ONE PURE STATEMENT of deadboltlaw5_LexTokens: yours. -/
def deadboltlaw5_LexTokens.Pure : Prop := ∀ (l0 : List Int) (a1 : ByteArray) (a2 : Int), l0.length ≤ maxLen → l0.length * 8 ≤ 140737488351232 → (∀ x ∈ l0, (Lit.int .i64 x).wf = true) → a1.size ≤ 140737488351232 → (Lit.int .i64 a2).wf = true → ∃ k, deadboltlaw5_LexTokens.f k l0 a1 a2 = some true
theorem deadboltlaw5_LexTokens.walk (P : deadboltlaw5_LexTokens.Pure) (a0 : Option Addr) (len0 cap0 : Nat) (z0 : List Int) (a1 : ByteArray) (a2 : Int) (w : World) (w0 : (a0 = none ∧ len0 = 0 ∧ cap0 = 0 ∧ z0 = []) ∨ ∃ x, a0 = some x ∧ len0 ≤ cap0 ∧ cap0 ≤ maxLen ∧ z0.length = cap0 ∧ (∀ i, i < z0.length → w.cell? (x.add i) = some (.int .i64 (z0.getD i 0))) ∧ ∀ n ∈ z0, (Lit.int .i64 n).wf = true) (y0 : len0 * 8 ≤ 140737488351232) (w1 : a1.size ≤ 140737488351232) (w2 : (Lit.int .i64 a2).wf = true) (hG : GL w) :
    Calls Tryd.prog 3 #[.slice a0 len0 cap0, .string a1, .int .i64 a2] w fun e w' => e = .returned (.bool true) ∧ Below w.heap.size w w' := by
  obtain ⟨l0, rfl, hr0, hm0, hw0, hc0⟩ := ReadsInt.ofRowC w0
  obtain ⟨k, h⟩ := P l0 a1 a2 hm0 y0 hw0 w1 w2
  refine (deadboltlaw5_LexTokens.calls k _ _ l0 a1 a2 true w (Kd.C_of_reads (d := (0 : Int)) (h1 := fun _ => rfl) hr0) hc0 h hG).mono ?_
  rintro e w' ⟨rfl, hd⟩
  exact ⟨rfl, hd⟩

end Go.Proofs.YtcabcedlnikbaaaDoor.Q
