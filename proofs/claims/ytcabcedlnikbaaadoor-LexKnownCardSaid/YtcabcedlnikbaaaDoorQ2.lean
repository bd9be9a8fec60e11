-- written by wip/xprint.py (over the kit's print.py) out of the translation. Not trusted: Lean checks it.
import Derived.Test.YtcabcedlnikbaaaDoorQ0
namespace Go.Proofs.YtcabcedlnikbaaaDoor.Q
open Go.RowKit Go.Proofs.YtcabcedlnikbaaaDoorW.PrintWords Go.Proofs.YtcabcedlnikbaaaDoorW.PrintLast Go.Proofs.YtcabcedlnikbaaaDoorW.PrintMore
attribute [local go_sem] max2_int min2_int max_two min_two max_three min_three max_four min_four   -- for this text's walks alone
set_option linter.unusedVariables false
set_option linter.unusedSimpArgs false

/-! ### lex_blank: function 17 -/
def lex_blank.f (a0 : Int) : Option (Bool) := if a0 = 32 then (some true) else (if a0 = 9 then (some true) else (some (a0 == 10)))
set_option maxHeartbeats 8000000 in
set_option maxRecDepth 100000 in
theorem lex_blank.calls (a0 : Int) (r : Bool) (w : World) (h : lex_blank.f a0 = some r) :
    Calls Tryd.prog 17 #[.int .i32 a0] w fun e w' => e = .returned (.bool r) ∧ Drawn0 w w' := by
  have H : (if a0 = 32 then (some true) else (if a0 = 9 then (some true) else (some (a0 == 10)))) = some r := h
  clear h
  by_cases c2 : a0 = 32
  · rw [if_pos c2] at H
    have c2b0 : (a0 == 32) = true := beq_iff_eq.mpr c2
    have c2b1 : (a0 != 32) = false := bne_eq_false_iff_eq.mpr c2
    clear c2
    obtain rfl := Option.some.inj H
    go_enter Tryd.func17, Tryd.ntmps17
    go_wp2
    go_ret
    exact ⟨by first | rfl | (simp; done) | (simp [*]; done), by repeat (first | exact Drawn0.refl _ | apply Drawn0.step)⟩
  · rw [if_neg c2] at H
    have c2b0 : (a0 == 32) = false := beq_eq_false_iff_ne.mpr c2
    have c2b1 : (a0 != 32) = true := bne_iff_ne.mpr c2
    by_cases c3 : a0 = 9
    · rw [if_pos c3] at H
      have c3b0 : (a0 == 9) = true := beq_iff_eq.mpr c3
      have c3b1 : (a0 != 9) = false := bne_eq_false_iff_eq.mpr c3
      clear c3
      obtain rfl := Option.some.inj H
      go_enter Tryd.func17, Tryd.ntmps17
      go_wp2
      go_ret
      exact ⟨by first | rfl | (simp; done) | (simp [*]; done), by repeat (first | exact Drawn0.refl _ | apply Drawn0.step)⟩
    · rw [if_neg c3] at H
      have c3b0 : (a0 == 9) = false := beq_eq_false_iff_ne.mpr c3
      have c3b1 : (a0 != 9) = true := bne_iff_ne.mpr c3
      obtain rfl := Option.some.inj H
      go_enter Tryd.func17, Tryd.ntmps17
      go_wp2
      go_ret
      exact ⟨by first | rfl | (simp; done) | (simp [*]; done), by repeat (first | exact Drawn0.refl _ | apply Drawn0.step)⟩

/-! ### lex_letter: function 18 -/
def lex_letter.f (a0 : Int) : Option (Bool) := if a0 ≥ 97 then (some (decide (a0 ≤ 122))) else (some false)
set_option maxHeartbeats 8000000 in
set_option maxRecDepth 100000 in
theorem lex_letter.calls (a0 : Int) (r : Bool) (w : World) (h : lex_letter.f a0 = some r) :
    Calls Tryd.prog 18 #[.int .i32 a0] w fun e w' => e = .returned (.bool r) ∧ Drawn0 w w' := by
  have H : (if a0 ≥ 97 then (some (decide (a0 ≤ 122))) else (some false)) = some r := h
  clear h
  by_cases c2 : a0 ≥ 97
  · rw [if_pos c2] at H
    have c2b0 : decide (97 ≤ a0) = true := decide_eq_true c2
    clear c2
    obtain rfl := Option.some.inj H
    go_enter Tryd.func18, Tryd.ntmps18
    go_wp2
    go_ret
    exact ⟨by first | rfl | (simp; done) | (simp [*]; done), by repeat (first | exact Drawn0.refl _ | apply Drawn0.step)⟩
  · rw [if_neg c2] at H
    have c2b0 : decide (97 ≤ a0) = false := decide_eq_false c2
    clear c2
    obtain rfl := Option.some.inj H
    go_enter Tryd.func18, Tryd.ntmps18
    go_wp2
    go_ret
    exact ⟨by first | rfl | (simp; done) | (simp [*]; done), by repeat (first | exact Drawn0.refl _ | apply Drawn0.step)⟩

/-! ### lex_sign: function 24 -/
def lex_sign.f (a0 : Int) : Option (Bool) := (lex_letter.f a0).bind fun t101 => (if t101 = true then (some true) else (if a0 ≥ 48 then (some (decide (a0 ≤ 57))) else (some false)))
set_option maxHeartbeats 8000000 in
set_option maxRecDepth 100000 in
theorem lex_sign.calls (a0 : Int) (r : Bool) (w : World) (h : lex_sign.f a0 = some r) :
    Calls Tryd.prog 24 #[.int .i32 a0] w fun e w' => e = .returned (.bool r) ∧ Drawn0 w w' := by
  have H : ((lex_letter.f a0).bind fun t101 => (if t101 = true then (some true) else (if a0 ≥ 48 then (some (decide (a0 ≤ 57))) else (some false)))) = some r := h
  clear h
  replace H := Option.bind_eq_some_iff.mp H
  obtain ⟨t101, A20, H⟩ := H
  replace H : (if t101 = true then (some true) else (if a0 ≥ 48 then (some (decide (a0 ≤ 57))) else (some false))) = some r := H
  have A2 := Aside0.mk A20
  clear A20
  by_cases c3 : t101 = true
  · subst c3
    have H1 : (some true) = some r := by rw [if_pos rfl] at H; exact H
    clear H
    have H := H1
    clear H1
    obtain rfl := Option.some.inj H
    go_enter Tryd.func24, Tryd.ntmps24
    go_wp2_with (first | ((with_reducible refine gate_callee (f := 18) rfl ?_); refine goesL_ (some 4) rfl rfl Tryd.func18 (by kernel_rfl) rfl #[.int .i32 a0] rfl (by (try simp only [List.map_toArray, List.map_cons, List.map_nil]); first | done | rfl | (simp only [List.length_drop, List.length_take]; rfl)) ?_; (with_reducible refine (lex_letter.calls a0 true _ A2.out).mono ?_); rintro e w' ⟨rfl, ⟨nd, rfl⟩⟩; refine ⟨_, rfl, ?_⟩))
    go_ret
    exact ⟨by first | rfl | (simp; done) | (simp [*]; done), by repeat (first | exact Drawn0.refl _ | apply Drawn0.step)⟩
  · replace c3 := Bool.eq_false_iff.mpr c3
    subst c3
    have H1 : (if a0 ≥ 48 then (some (decide (a0 ≤ 57))) else (some false)) = some r := by rw [if_neg (show ¬ (false = true) by decide)] at H; exact H
    clear H
    have H := H1
    clear H1
    by_cases c4 : a0 ≥ 48
    · rw [if_pos c4] at H
      have c4b0 : decide (48 ≤ a0) = true := decide_eq_true c4
      clear c4
      obtain rfl := Option.some.inj H
      go_enter Tryd.func24, Tryd.ntmps24
      go_wp2_with (first | ((with_reducible refine gate_callee (f := 18) rfl ?_); refine goesL_ (some 4) rfl rfl Tryd.func18 (by kernel_rfl) rfl #[.int .i32 a0] rfl (by (try simp only [List.map_toArray, List.map_cons, List.map_nil]); first | done | rfl | (simp only [List.length_drop, List.length_take]; rfl)) ?_; (with_reducible refine (lex_letter.calls a0 false _ A2.out).mono ?_); rintro e w' ⟨rfl, ⟨nd, rfl⟩⟩; refine ⟨_, rfl, ?_⟩))
      go_ret
      exact ⟨by first | rfl | (simp; done) | (simp [*]; done), by repeat (first | exact Drawn0.refl _ | apply Drawn0.step)⟩
    · rw [if_neg c4] at H
      have c4b0 : decide (48 ≤ a0) = false := decide_eq_false c4
      clear c4
      obtain rfl := Option.some.inj H
      go_enter Tryd.func24, Tryd.ntmps24
      go_wp2_with (first | ((with_reducible refine gate_callee (f := 18) rfl ?_); refine goesL_ (some 4) rfl rfl Tryd.func18 (by kernel_rfl) rfl #[.int .i32 a0] rfl (by (try simp only [List.map_toArray, List.map_cons, List.map_nil]); first | done | rfl | (simp only [List.length_drop, List.length_take]; rfl)) ?_; (with_reducible refine (lex_letter.calls a0 false _ A2.out).mono ?_); rintro e w' ⟨rfl, ⟨nd, rfl⟩⟩; refine ⟨_, rfl, ?_⟩))
      go_ret
      exact ⟨by first | rfl | (simp; done) | (simp [*]; done), by repeat (first | exact Drawn0.refl _ | apply Drawn0.step)⟩

/-! ### deadboltlaw5_within: function 10 -/
def deadboltlaw5_within.f (a0 : Int) (a1 : Int) : Option (Int) := if a1 = 0 then (none) else (if (Int.tmod a0 a1) < 0 then (some (wrap64 ((Int.tmod a0 a1) + a1))) else (some (Int.tmod a0 a1)))
set_option maxHeartbeats 8000000 in
set_option maxRecDepth 100000 in
theorem deadboltlaw5_within.calls (a0 : Int) (a1 : Int) (r : Int) (w : World) (h : deadboltlaw5_within.f a0 a1 = some r) :
    Calls Tryd.prog 10 #[.int .i64 a0, .int .i64 a1] w fun e w' => e = .returned (.int .i64 r) ∧ Drawn0 w w' := by
  have H : (if a1 = 0 then (none) else (if (Int.tmod a0 a1) < 0 then (some (wrap64 ((Int.tmod a0 a1) + a1))) else (some (Int.tmod a0 a1)))) = some r := h
  clear h
  by_cases c3 : a1 = 0
  · rw [if_pos c3] at H
    exact absurd H (by simp)
  · rw [if_neg c3] at H
    have c3b0 : (a1 == 0) = false := beq_eq_false_iff_ne.mpr c3
    have c3b1 : (a1 != 0) = true := bne_iff_ne.mpr c3
    by_cases c4 : (Int.tmod a0 a1) < 0
    · rw [if_pos c4] at H
      have c4b0 : decide ((Int.tmod a0 a1) < 0) = true := decide_eq_true c4
      clear c4
      obtain rfl := Option.some.inj H
      go_enter Tryd.func10, Tryd.ntmps10
      go_wp2
      go_ret
      exact ⟨by first | rfl | (simp; done) | (simp [*]; done), by repeat (first | exact Drawn0.refl _ | apply Drawn0.step)⟩
    · rw [if_neg c4] at H
      have c4b0 : decide ((Int.tmod a0 a1) < 0) = false := decide_eq_false c4
      clear c4
      obtain rfl := Option.some.inj H
      go_enter Tryd.func10, Tryd.ntmps10
      go_wp2
      go_ret
      exact ⟨by first | rfl | (simp; done) | (simp [*]; done), by repeat (first | exact Drawn0.refl _ | apply Drawn0.step)⟩

/-! ### deadboltlaw5_Text: function 11 -/
def deadboltlaw5_Text.l0 : Nat → List Int → ByteArray → Int → Option (ByteArray)
  | 0, _, _, _ => none
  | k + 1, x0, x3, x4 => if x4 < (x0.length : Int) then (if x4 < 150 then ((some (([(⟨#[123]⟩ : ByteArray), (⟨#[125]⟩ : ByteArray), (⟨#[32]⟩ : ByteArray), (⟨#[120]⟩ : ByteArray), (⟨#[108]⟩ : ByteArray), (⟨#[109, 97, 105, 110]⟩ : ByteArray), (⟨#[117, 115, 101, 32]⟩ : ByteArray), (⟨#[115, 101, 116, 32]⟩ : ByteArray), (⟨#[108, 111, 99, 107, 32]⟩ : ByteArray), (⟨#[117, 110, 108, 111, 99, 107, 32]⟩ : ByteArray), (⟨#[99, 97, 108, 108, 32]⟩ : ByteArray), (⟨#[115, 112, 97, 119, 110, 32]⟩ : ByteArray), (⟨#[105, 102, 32]⟩ : ByteArray), (⟨#[101, 108, 115, 101, 32]⟩ : ByteArray), (⟨#[108, 111, 111, 112, 32]⟩ : ByteArray), (⟨#[118, 97, 114, 32]⟩ : ByteArray), (⟨#[102, 117, 110, 99, 32]⟩ : ByteArray), (⟨#[102, 32]⟩ : ByteArray), (⟨#[57]⟩ : ByteArray), (⟨#[10]⟩ : ByteArray), (⟨#[9]⟩ : ByteArray), (⟨#[65]⟩ : ByteArray), (⟨#[109, 50]⟩ : ByteArray), (⟨#[97, 98, 99, 100, 101, 102, 103, 104, 105, 106, 107, 108, 109]⟩ : ByteArray)] : List ByteArray) : List ByteArray)).bind fun y113 => (if 0 ≤ x4 then ((deadboltlaw5_within.f (rd x0 x4) 24).bind fun t117 => (if 0 ≤ t117 then (if t117 < (y113.length : Int) then (if x3.size + (rdOf ByteArray.empty y113 t117).size ≤ 9223372036854775807 then (deadboltlaw5_Text.l0 k x0 (x3 ++ (rdOf ByteArray.empty y113 t117)) (wrap64 (x4 + 1))) else (none)) else (none)) else (none))) else (none))) else (some x3)) else (some x3)
def deadboltlaw5_Text.f (k : Nat) (l0 : List Int) : Option (ByteArray) := deadboltlaw5_Text.l0 k l0 (⟨#[]⟩ : ByteArray) 0
theorem deadboltlaw5_Text.mono_l : ∀ k, (∀ y0 y1 y2, LeO (deadboltlaw5_Text.l0 k y0 y1 y2) (deadboltlaw5_Text.l0 (k + 1) y0 y1 y2))
  | 0 => fun _ _ _ r h => by simp [deadboltlaw5_Text.l0] at h
  | k + 1 => by
    have ih0 := deadboltlaw5_Text.mono_l k
    · intro y0 y1 y2
      unfold deadboltlaw5_Text.l0
      repeat' first
      | (with_reducible exact ih0 _ _ _)
      | (with_reducible exact LeO.refl _)
      | (with_reducible exact LeO.none _)
      | (with_reducible refine LeO.ite ?_ ?_)
      | (with_reducible refine LeO.bind ?_ (fun _ => ?_))
      | exact ih0 _ _ _
      | exact LeO.none _
      | refine LeO.ite ?_ ?_
      | refine LeO.bind ?_ (fun _ => ?_)
theorem deadboltlaw5_Text.mono : ∀ a0 k, LeO (deadboltlaw5_Text.f k a0) (deadboltlaw5_Text.f (k + 1) a0) := by
  intro a0 k
  have ih0 := deadboltlaw5_Text.mono_l k
  unfold deadboltlaw5_Text.f
  repeat' first
      | (with_reducible exact ih0 _ _ _)
      | (with_reducible exact LeO.refl _)
      | (with_reducible exact LeO.none _)
      | (with_reducible refine LeO.ite ?_ ?_)
      | (with_reducible refine LeO.bind ?_ (fun _ => ?_))
      | exact ih0 _ _ _
      | exact LeO.none _
      | refine LeO.ite ?_ ?_
      | refine LeO.bind ?_ (fun _ => ?_)
set_option maxHeartbeats 8000000 in
set_option maxRecDepth 100000 in
theorem deadboltlaw5_Text.calls (k : Nat) (A0 : Option Addr) (c0 : Nat) (l0 : List Int) (r : ByteArray) (w : World) (hr0 : Kd.C (Kd.int .i64) w A0 l0.length l0) (hc0 : l0.length ≤ c0) (h : deadboltlaw5_Text.f k l0 = some r) :
    Calls Tryd.prog 11 #[.slice A0 l0.length c0] w fun e w' => e = .returned (.string r) ∧ Below w.heap.size w w' := by
  have HR0 := Aside0.mk hr0
  have HC0 := Aside0.mk hc0
  clear hr0 hc0
  have HB := Aside0.mk (Below.refl w.heap.size w)
  have H : (deadboltlaw5_Text.l0 k l0 (⟨#[]⟩ : ByteArray) 0) = some r := h
  clear h
  have H' := Aside0.mk H
  clear H
  go_enter Tryd.func11, Tryd.ntmps11
  go_wp2
  go_loopg [3, 4] k (fun kq v3 v4 w' => ∃ (x3_1 : ByteArray) (x4_1 : Int), v3 = .string x3_1 ∧ v4 = .int .i64 x4_1 ∧ Aside0 (deadboltlaw5_Text.l0 kq l0 x3_1 x4_1 = some r) ∧ Aside0 (kq ≤ k) ∧ Aside0 (Below w.heap.size w w'))
  case atStart => exact ⟨((⟨#[]⟩ : ByteArray)), (0), (by first | rfl | (simp; done) | (simp [*]; done)), (by first | rfl | (simp; done) | (simp [*]; done)), H', ⟨Nat.le_refl _⟩, ⟨by repeat (first | (with_reducible first | exact HB.out | apply below_alloc | apply pw_below_drewN | apply below_drew1) | exact HB.out)⟩⟩
  case round =>
    clear H'
    try clear c1
    obtain ⟨x3_1, x4_1, rfl, rfl, HA, HK1, HB⟩ := hrel
    cases gk with
    | zero => exact absurd HA.out (by simp [deadboltlaw5_Text.l0])
    | succ k1 =>
      have H := HA.out
      clear HA
      simp only [deadboltlaw5_Text.l0] at H
      by_cases c2 : x4_1 < (l0.length : Int)
      · rw [if_pos c2] at H
        have c2b0 : decide (x4_1 < (l0.length : Int)) = true := decide_eq_true c2
        clear c2
        by_cases c3 : x4_1 < 150
        · rw [if_pos c3] at H
          have c3b0 : decide (x4_1 < 150) = true := decide_eq_true c3
          clear c3
          obtain ⟨y113, hy113⟩ : ∃ y_ : List ByteArray, y_ = (([(⟨#[123]⟩ : ByteArray), (⟨#[125]⟩ : ByteArray), (⟨#[32]⟩ : ByteArray), (⟨#[120]⟩ : ByteArray), (⟨#[108]⟩ : ByteArray), (⟨#[109, 97, 105, 110]⟩ : ByteArray), (⟨#[117, 115, 101, 32]⟩ : ByteArray), (⟨#[115, 101, 116, 32]⟩ : ByteArray), (⟨#[108, 111, 99, 107, 32]⟩ : ByteArray), (⟨#[117, 110, 108, 111, 99, 107, 32]⟩ : ByteArray), (⟨#[99, 97, 108, 108, 32]⟩ : ByteArray), (⟨#[115, 112, 97, 119, 110, 32]⟩ : ByteArray), (⟨#[105, 102, 32]⟩ : ByteArray), (⟨#[101, 108, 115, 101, 32]⟩ : ByteArray), (⟨#[108, 111, 111, 112, 32]⟩ : ByteArray), (⟨#[118, 97, 114, 32]⟩ : ByteArray), (⟨#[102, 117, 110, 99, 32]⟩ : ByteArray), (⟨#[102, 32]⟩ : ByteArray), (⟨#[57]⟩ : ByteArray), (⟨#[10]⟩ : ByteArray), (⟨#[9]⟩ : ByteArray), (⟨#[65]⟩ : ByteArray), (⟨#[109, 50]⟩ : ByteArray), (⟨#[97, 98, 99, 100, 101, 102, 103, 104, 105, 106, 107, 108, 109]⟩ : ByteArray)] : List ByteArray)) := ⟨_, rfl⟩
          replace H : (if 0 ≤ x4_1 then ((deadboltlaw5_within.f (rd l0 x4_1) 24).bind fun t117 => (if 0 ≤ t117 then (if t117 < (y113.length : Int) then (if x3_1.size + (rdOf ByteArray.empty y113 t117).size ≤ 9223372036854775807 then (deadboltlaw5_Text.l0 k1 l0 (x3_1 ++ (rdOf ByteArray.empty y113 t117)) (wrap64 (x4_1 + 1))) else (none)) else (none)) else (none))) else (none)) = some r := by first | (rw [hy113]; with_reducible exact H) | (have H2_ := (Option.bind_some _ _).symm.trans H; rw [hy113]; with_reducible exact H2_) | (have H2_ := (Option.bind_some _ _).symm.trans H; with_reducible exact H2_) | with_reducible exact H | (rw [hy113]; exact H) | exact H
          have Ny113 := Aside0.mk hy113
          clear hy113
          by_cases c4 : 0 ≤ x4_1
          · rw [if_pos c4] at H
            have c4b0 : decide (0 ≤ x4_1) = true := decide_eq_true c4
            clear c4
            replace H := Option.bind_eq_some_iff.mp H
            obtain ⟨t117, A50, H⟩ := H
            replace H : (if 0 ≤ t117 then (if t117 < (y113.length : Int) then (if x3_1.size + (rdOf ByteArray.empty y113 t117).size ≤ 9223372036854775807 then (deadboltlaw5_Text.l0 k1 l0 (x3_1 ++ (rdOf ByteArray.empty y113 t117)) (wrap64 (x4_1 + 1))) else (none)) else (none)) else (none)) = some r := H
            have A5 := Aside0.mk A50
            clear A50
            by_cases c6 : 0 ≤ t117
            · rw [if_pos c6] at H
              have c6b0 : decide (0 ≤ t117) = true := decide_eq_true c6
              clear c6
              by_cases c7 : t117 < (y113.length : Int)
              · rw [if_pos c7] at H
                have c7b0 : decide (t117 < (y113.length : Int)) = true := decide_eq_true c7
                clear c7
                by_cases c8 : x3_1.size + (rdOf ByteArray.empty y113 t117).size ≤ 9223372036854775807
                · rw [if_pos c8] at H
                  have c8b0 := eq_true c8
                  have c8b1 : decide (x3_1.size + (rdOf ByteArray.empty y113 t117).size ≤ 9223372036854775807) = true := decide_eq_true c8
                  try have c8b2 : (9223372036854775807 < x3_1.size + (rdOf ByteArray.empty y113 t117).size) = False := eq_false (Nat.not_lt.2 c8)
                  have H' := Aside0.mk H
                  clear H
                  go_wp2_with (first | ((with_reducible refine gate_dst (N := 16) rfl ?_); refine Kd.R_lit Kd.string _ 9 ?hg (N := 16) ?hd (xs := ([(⟨#[123]⟩ : ByteArray), (⟨#[125]⟩ : ByteArray), (⟨#[32]⟩ : ByteArray), (⟨#[120]⟩ : ByteArray), (⟨#[108]⟩ : ByteArray), (⟨#[109, 97, 105, 110]⟩ : ByteArray), (⟨#[117, 115, 101, 32]⟩ : ByteArray), (⟨#[115, 101, 116, 32]⟩ : ByteArray), (⟨#[108, 111, 99, 107, 32]⟩ : ByteArray), (⟨#[117, 110, 108, 111, 99, 107, 32]⟩ : ByteArray), (⟨#[99, 97, 108, 108, 32]⟩ : ByteArray), (⟨#[115, 112, 97, 119, 110, 32]⟩ : ByteArray), (⟨#[105, 102, 32]⟩ : ByteArray), (⟨#[101, 108, 115, 101, 32]⟩ : ByteArray), (⟨#[108, 111, 111, 112, 32]⟩ : ByteArray), (⟨#[118, 97, 114, 32]⟩ : ByteArray), (⟨#[102, 117, 110, 99, 32]⟩ : ByteArray), (⟨#[102, 32]⟩ : ByteArray), (⟨#[57]⟩ : ByteArray), (⟨#[10]⟩ : ByteArray), (⟨#[9]⟩ : ByteArray), (⟨#[65]⟩ : ByteArray), (⟨#[109, 50]⟩ : ByteArray), (⟨#[97, 98, 99, 100, 101, 102, 103, 104, 105, 106, 107, 108, 109]⟩ : ByteArray)] : List ByteArray)) (inner := [.string (⟨#[123]⟩ : ByteArray), .string (⟨#[125]⟩ : ByteArray), .string (⟨#[32]⟩ : ByteArray), .string (⟨#[120]⟩ : ByteArray), .string (⟨#[108]⟩ : ByteArray), .string (⟨#[109, 97, 105, 110]⟩ : ByteArray), .string (⟨#[117, 115, 101, 32]⟩ : ByteArray), .string (⟨#[115, 101, 116, 32]⟩ : ByteArray), .string (⟨#[108, 111, 99, 107, 32]⟩ : ByteArray), .string (⟨#[117, 110, 108, 111, 99, 107, 32]⟩ : ByteArray), .string (⟨#[99, 97, 108, 108, 32]⟩ : ByteArray), .string (⟨#[115, 112, 97, 119, 110, 32]⟩ : ByteArray), .string (⟨#[105, 102, 32]⟩ : ByteArray), .string (⟨#[101, 108, 115, 101, 32]⟩ : ByteArray), .string (⟨#[108, 111, 111, 112, 32]⟩ : ByteArray), .string (⟨#[118, 97, 114, 32]⟩ : ByteArray), .string (⟨#[102, 117, 110, 99, 32]⟩ : ByteArray), .string (⟨#[102, 32]⟩ : ByteArray), .string (⟨#[57]⟩ : ByteArray), .string (⟨#[10]⟩ : ByteArray), .string (⟨#[9]⟩ : ByteArray), .string (⟨#[65]⟩ : ByteArray), .string (⟨#[109, 50]⟩ : ByteArray), .string (⟨#[97, 98, 99, 100, 101, 102, 103, 104, 105, 106, 107, 108, 109]⟩ : ByteArray)]) (ok := fun _ => True) (okp := fun _ => True) ?hr ?hp (fun _ hk => hk) trivial (Below.refl _ _) (Nat.le_refl _) (by simp) ?_; (case hd => rfl); (case hg => rfl); (case hr => first | (go_simp; done) | (go_simp; rfl)); (case hp => exact (Reps.one (show Kd.M Kd.string _ _ _ (⟨#[123]⟩ : ByteArray) [.string (⟨#[123]⟩ : ByteArray)] from rfl) (Reps.one (show Kd.M Kd.string _ _ _ (⟨#[125]⟩ : ByteArray) [.string (⟨#[125]⟩ : ByteArray)] from rfl) (Reps.one (show Kd.M Kd.string _ _ _ (⟨#[32]⟩ : ByteArray) [.string (⟨#[32]⟩ : ByteArray)] from rfl) (Reps.one (show Kd.M Kd.string _ _ _ (⟨#[120]⟩ : ByteArray) [.string (⟨#[120]⟩ : ByteArray)] from rfl) (Reps.one (show Kd.M Kd.string _ _ _ (⟨#[108]⟩ : ByteArray) [.string (⟨#[108]⟩ : ByteArray)] from rfl) (Reps.one (show Kd.M Kd.string _ _ _ (⟨#[109, 97, 105, 110]⟩ : ByteArray) [.string (⟨#[109, 97, 105, 110]⟩ : ByteArray)] from rfl) (Reps.one (show Kd.M Kd.string _ _ _ (⟨#[117, 115, 101, 32]⟩ : ByteArray) [.string (⟨#[117, 115, 101, 32]⟩ : ByteArray)] from rfl) (Reps.one (show Kd.M Kd.string _ _ _ (⟨#[115, 101, 116, 32]⟩ : ByteArray) [.string (⟨#[115, 101, 116, 32]⟩ : ByteArray)] from rfl) (Reps.one (show Kd.M Kd.string _ _ _ (⟨#[108, 111, 99, 107, 32]⟩ : ByteArray) [.string (⟨#[108, 111, 99, 107, 32]⟩ : ByteArray)] from rfl) (Reps.one (show Kd.M Kd.string _ _ _ (⟨#[117, 110, 108, 111, 99, 107, 32]⟩ : ByteArray) [.string (⟨#[117, 110, 108, 111, 99, 107, 32]⟩ : ByteArray)] from rfl) (Reps.one (show Kd.M Kd.string _ _ _ (⟨#[99, 97, 108, 108, 32]⟩ : ByteArray) [.string (⟨#[99, 97, 108, 108, 32]⟩ : ByteArray)] from rfl) (Reps.one (show Kd.M Kd.string _ _ _ (⟨#[115, 112, 97, 119, 110, 32]⟩ : ByteArray) [.string (⟨#[115, 112, 97, 119, 110, 32]⟩ : ByteArray)] from rfl) (Reps.one (show Kd.M Kd.string _ _ _ (⟨#[105, 102, 32]⟩ : ByteArray) [.string (⟨#[105, 102, 32]⟩ : ByteArray)] from rfl) (Reps.one (show Kd.M Kd.string _ _ _ (⟨#[101, 108, 115, 101, 32]⟩ : ByteArray) [.string (⟨#[101, 108, 115, 101, 32]⟩ : ByteArray)] from rfl) (Reps.one (show Kd.M Kd.string _ _ _ (⟨#[108, 111, 111, 112, 32]⟩ : ByteArray) [.string (⟨#[108, 111, 111, 112, 32]⟩ : ByteArray)] from rfl) (Reps.one (show Kd.M Kd.string _ _ _ (⟨#[118, 97, 114, 32]⟩ : ByteArray) [.string (⟨#[118, 97, 114, 32]⟩ : ByteArray)] from rfl) (Reps.one (show Kd.M Kd.string _ _ _ (⟨#[102, 117, 110, 99, 32]⟩ : ByteArray) [.string (⟨#[102, 117, 110, 99, 32]⟩ : ByteArray)] from rfl) (Reps.one (show Kd.M Kd.string _ _ _ (⟨#[102, 32]⟩ : ByteArray) [.string (⟨#[102, 32]⟩ : ByteArray)] from rfl) (Reps.one (show Kd.M Kd.string _ _ _ (⟨#[57]⟩ : ByteArray) [.string (⟨#[57]⟩ : ByteArray)] from rfl) (Reps.one (show Kd.M Kd.string _ _ _ (⟨#[10]⟩ : ByteArray) [.string (⟨#[10]⟩ : ByteArray)] from rfl) (Reps.one (show Kd.M Kd.string _ _ _ (⟨#[9]⟩ : ByteArray) [.string (⟨#[9]⟩ : ByteArray)] from rfl) (Reps.one (show Kd.M Kd.string _ _ _ (⟨#[65]⟩ : ByteArray) [.string (⟨#[65]⟩ : ByteArray)] from rfl) (Reps.one (show Kd.M Kd.string _ _ _ (⟨#[109, 50]⟩ : ByteArray) [.string (⟨#[109, 50]⟩ : ByteArray)] from rfl) (Reps.one (show Kd.M Kd.string _ _ _ (⟨#[97, 98, 99, 100, 101, 102, 103, 104, 105, 106, 107, 108, 109]⟩ : ByteArray) [.string (⟨#[97, 98, 99, 100, 101, 102, 103, 104, 105, 106, 107, 108, 109]⟩ : ByteArray)] from rfl) (Reps.none _ _)))))))))))))))))))))))))); intro v114 w9 ho10 hb hg_ hnew_; clear hg_ hnew_; (first | rw [← Ny113.out] at ho10 | (simp only [Int.reduceToNat] at ho10; rw [← Ny113.out] at ho10)); have n0_ := Aside0.mk (Kd.R_lower ho10 (below_size (by repeat (first | (with_reducible first | exact HB.out | apply below_alloc | apply pw_below_drewN | apply below_drew1) | exact HB.out)))); have n1_ := Aside0.mk (below_step (by repeat (first | (with_reducible first | exact HB.out | apply below_alloc | apply pw_below_drewN | apply below_drew1) | exact HB.out)) hb); clear HB; have HO115 := n0_; have HB := n1_; clear n0_ n1_; clear hb ho10; have p116 : 0 ≤ (x4_1 : Int) := of_decide_eq_true (by first | (with_reducible assumption) | assumption); have q116 : x4_1 < (l0.length : Int) := of_decide_eq_true (by first | (with_reducible assumption) | assumption); obtain ⟨ad116, e116, hx116_0⟩ := Kd.at_int HR0.out x4_1 p116 q116; cases e116; replace hx116_0 := (HB.out.cell (World.block_lt_of_cell? w _ hx116_0)).trans hx116_0; replace p116 := eq_true p116; replace q116 := eq_true q116) | ((with_reducible refine gate_callee (f := 10) rfl ?_); refine goesL_ (some 21) rfl rfl Tryd.func10 (by kernel_rfl) rfl #[.int .i64 (rd l0 x4_1), .int .i64 24] rfl (by (try simp only [List.map_toArray, List.map_cons, List.map_nil]); first | done | rfl | (simp only [List.length_drop, List.length_take]; rfl)) ?_; (with_reducible refine (deadboltlaw5_within.calls (rd l0 x4_1) 24 t117 _ A5.out).mono ?_); rintro e w' ⟨rfl, ⟨nd, rfl⟩⟩; refine ⟨_, rfl, ?_⟩; obtain ⟨Ao11, co11, eo11⟩ := Kd.R_slice HO115.out; subst eo11; have p118 : 0 ≤ (t117 : Int) := of_decide_eq_true (by first | (with_reducible assumption) | assumption); have q118 : t117 < (y113.length : Int) := of_decide_eq_true (by first | (with_reducible assumption) | assumption); obtain ⟨ad118, e118, hx118_0⟩ := Kd.at_string (Kd.R_reads' HO115.out).2.2 t117 p118 q118; cases e118; replace p118 := eq_true p118; replace q118 := eq_true q118))
                  go_roundg k1
                  case measure => have := HK1.out; omega
                  case rel => exact ⟨(x3_1 ++ (rdOf ByteArray.empty y113 t117)), (wrap64 (x4_1 + 1)), (by first | rfl | (simp; done) | (simp [*]; done)), (by first | rfl | (simp; done) | (simp [*]; done)), H', ⟨by have := HK1.out; omega⟩, ⟨by repeat (first | (with_reducible first | exact HB.out | apply below_alloc | apply pw_below_drewN | apply below_drew1) | exact HB.out)⟩⟩
                · rw [if_neg c8] at H
                  exact absurd H (by simp)
              · rw [if_neg c7] at H
                exact absurd H (by simp)
            · rw [if_neg c6] at H
              exact absurd H (by simp)
          · rw [if_neg c4] at H
            exact absurd H (by simp)
        · rw [if_neg c3] at H
          have c3b0 : decide (x4_1 < 150) = false := decide_eq_false c3
          clear c3
          obtain rfl := Option.some.inj H
          go_wp2
          go_ret
          exact ⟨by first | rfl | (simp [errW_none, errW_some] <;> rfl) | (simp [*, errW_none, errW_some] <;> rfl), by repeat (first | (with_reducible first | exact HB.out | apply below_alloc | apply pw_below_drewN | apply below_drew1) | exact HB.out)⟩
      · rw [if_neg c2] at H
        have c2b0 : decide (x4_1 < (l0.length : Int)) = false := decide_eq_false c2
        clear c2
        obtain rfl := Option.some.inj H
        go_wp2
        go_ret
        exact ⟨by first | rfl | (simp [errW_none, errW_some] <;> rfl) | (simp [*, errW_none, errW_some] <;> rfl), by repeat (first | (with_reducible first | exact HB.out | apply below_alloc | apply pw_below_drewN | apply below_drew1) | exact HB.out)⟩

/-! ### deadboltref5_letter: function 20 -/
def deadboltref5_letter.f (a0 : Int) : Option (Bool) := if a0 ≥ 97 then (some (decide (a0 ≤ 122))) else (some false)
set_option maxHeartbeats 8000000 in
set_option maxRecDepth 100000 in
theorem deadboltref5_letter.calls (a0 : Int) (r : Bool) (w : World) (h : deadboltref5_letter.f a0 = some r) :
    Calls Tryd.prog 20 #[.int .u8 a0] w fun e w' => e = .returned (.bool r) ∧ Drawn0 w w' := by
  have H : (if a0 ≥ 97 then (some (decide (a0 ≤ 122))) else (some false)) = some r := h
  clear h
  by_cases c2 : a0 ≥ 97
  · rw [if_pos c2] at H
    have c2b0 : decide (97 ≤ a0) = true := decide_eq_true c2
    clear c2
    obtain rfl := Option.some.inj H
    go_enter Tryd.func20, Tryd.ntmps20
    go_wp2
    go_ret
    exact ⟨by first | rfl | (simp; done) | (simp [*]; done), by repeat (first | exact Drawn0.refl _ | apply Drawn0.step)⟩
  · rw [if_neg c2] at H
    have c2b0 : decide (97 ≤ a0) = false := decide_eq_false c2
    clear c2
    obtain rfl := Option.some.inj H
    go_enter Tryd.func20, Tryd.ntmps20
    go_wp2
    go_ret
    exact ⟨by first | rfl | (simp; done) | (simp [*]; done), by repeat (first | exact Drawn0.refl _ | apply Drawn0.step)⟩

/-! ### deadboltref5_digit: function 21 -/
def deadboltref5_digit.f (a0 : Int) : Option (Bool) := if a0 ≥ 48 then (some (decide (a0 ≤ 57))) else (some false)
set_option maxHeartbeats 8000000 in
set_option maxRecDepth 100000 in
theorem deadboltref5_digit.calls (a0 : Int) (r : Bool) (w : World) (h : deadboltref5_digit.f a0 = some r) :
    Calls Tryd.prog 21 #[.int .u8 a0] w fun e w' => e = .returned (.bool r) ∧ Drawn0 w w' := by
  have H : (if a0 ≥ 48 then (some (decide (a0 ≤ 57))) else (some false)) = some r := h
  clear h
  by_cases c2 : a0 ≥ 48
  · rw [if_pos c2] at H
    have c2b0 : decide (48 ≤ a0) = true := decide_eq_true c2
    clear c2
    obtain rfl := Option.some.inj H
    go_enter Tryd.func21, Tryd.ntmps21
    go_wp2
    go_ret
    exact ⟨by first | rfl | (simp; done) | (simp [*]; done), by repeat (first | exact Drawn0.refl _ | apply Drawn0.step)⟩
  · rw [if_neg c2] at H
    have c2b0 : decide (48 ≤ a0) = false := decide_eq_false c2
    clear c2
    obtain rfl := Option.some.inj H
    go_enter Tryd.func21, Tryd.ntmps21
    go_wp2
    go_ret
    exact ⟨by first | rfl | (simp; done) | (simp [*]; done), by repeat (first | exact Drawn0.refl _ | apply Drawn0.step)⟩

/-! ### deadboltref5_Tokens: function 13 -/
mutual
def deadboltref5_Tokens.l0 : Nat → ByteArray → List (S39) → Int → Option ((List (S39)) × Int × Int)
  | 0, _, _, _ => none
  | k + 1, x0, x5, x6 => if x6 < (x0.size : Int) then (if 0 ≤ x6 then (if (bt x0 x6) = 32 then (deadboltref5_Tokens.j1 k x0 x5 x6 (bt x0 x6) (wrap64 (x6 + 1)) true) else (if (bt x0 x6) = 9 then (deadboltref5_Tokens.j1 k x0 x5 x6 (bt x0 x6) (wrap64 (x6 + 1)) true) else (deadboltref5_Tokens.j1 k x0 x5 x6 (bt x0 x6) (wrap64 (x6 + 1)) ((bt x0 x6) == 10)))) else (none)) else (some (x5, 0, 0))
def deadboltref5_Tokens.j1 : Nat → ByteArray → List (S39) → Int → Int → Int → Bool → Option ((List (S39)) × Int × Int)
  | 0, _, _, _, _, _, _ => none
  | k + 1, x0, x5, x6, x7, x8, x22 => if x22 = true then (deadboltref5_Tokens.l0 k x0 x5 x8) else (if x7 = 123 then (if x5.length < 4398046511104 then (deadboltref5_Tokens.l0 k x0 (x5 ++ [(⟨2, x6, (⟨#[]⟩ : ByteArray)⟩ : S39)]) x8) else (none)) else (if x7 = 125 then (if x5.length < 4398046511104 then (deadboltref5_Tokens.l0 k x0 (x5 ++ [(⟨3, x6, (⟨#[]⟩ : ByteArray)⟩ : S39)]) x8) else (none)) else ((deadboltref5_letter.f x7).bind fun t125 => (if t125 = true then (deadboltref5_Tokens.l1 k x0 x5 x6 x8) else (some (([] : List (S39)), x6, 6))))))
def deadboltref5_Tokens.l1 : Nat → ByteArray → List (S39) → Int → Int → Option ((List (S39)) × Int × Int)
  | 0, _, _, _, _ => none
  | k + 1, x0, x5, x6, x8 => if x8 < (x0.size : Int) then (if 0 ≤ x8 then ((deadboltref5_letter.f (bt x0 x8)).bind fun t126 => (if t126 = true then (deadboltref5_Tokens.l1 k x0 x5 x6 (wrap64 (x8 + 1))) else ((deadboltref5_digit.f (bt x0 x8)).bind fun t127 => (if t127 = true then (deadboltref5_Tokens.l1 k x0 x5 x6 (wrap64 (x8 + 1))) else (if 0 ≤ x6 then (if x6 ≤ x8 then (if x8 ≤ (x0.size : Int) then (if x5.length < 4398046511104 then (deadboltref5_Tokens.l0 k x0 (x5 ++ [(⟨1, x6, x0.extract (x6 : Int).toNat (x8 : Int).toNat⟩ : S39)]) x8) else (none)) else (none)) else (none)) else (none)))))) else (none)) else (if 0 ≤ x6 then (if x6 ≤ x8 then (if x8 ≤ (x0.size : Int) then (if x5.length < 4398046511104 then (deadboltref5_Tokens.l0 k x0 (x5 ++ [(⟨1, x6, x0.extract (x6 : Int).toNat (x8 : Int).toNat⟩ : S39)]) x8) else (none)) else (none)) else (none)) else (none))
end
def deadboltref5_Tokens.f (k : Nat) (a0 : ByteArray) : Option ((List (S39)) × Int × Int) := if (a0.size : Int) > 2000 then (some (([] : List (S39)), 0, 2)) else (deadboltref5_Tokens.l0 k a0 ([] : List (S39)) 0)
theorem deadboltref5_Tokens.mono_l : ∀ k, (∀ y0 y1 y2, LeO (deadboltref5_Tokens.l0 k y0 y1 y2) (deadboltref5_Tokens.l0 (k + 1) y0 y1 y2)) ∧ (∀ y0 y1 y2 y3 y4 y5, LeO (deadboltref5_Tokens.j1 k y0 y1 y2 y3 y4 y5) (deadboltref5_Tokens.j1 (k + 1) y0 y1 y2 y3 y4 y5)) ∧ (∀ y0 y1 y2 y3, LeO (deadboltref5_Tokens.l1 k y0 y1 y2 y3) (deadboltref5_Tokens.l1 (k + 1) y0 y1 y2 y3))
  | 0 => ⟨fun _ _ _ r h => by simp [deadboltref5_Tokens.l0] at h, fun _ _ _ _ _ _ r h => by simp [deadboltref5_Tokens.j1] at h, fun _ _ _ _ r h => by simp [deadboltref5_Tokens.l1] at h⟩
  | k + 1 => by
    obtain ⟨ih0, ih1, ih2⟩ := deadboltref5_Tokens.mono_l k
    refine ⟨?_, ?_, ?_⟩
    · intro y0 y1 y2
      unfold deadboltref5_Tokens.l0
      repeat' first
      | (with_reducible exact ih0 _ _ _)
      | (with_reducible exact ih1 _ _ _ _ _ _)
      | (with_reducible exact ih2 _ _ _ _)
      | (with_reducible exact LeO.refl _)
      | (with_reducible exact LeO.none _)
      | (with_reducible refine LeO.ite ?_ ?_)
      | (with_reducible refine LeO.bind ?_ (fun _ => ?_))
      | exact ih0 _ _ _
      | exact ih1 _ _ _ _ _ _
      | exact ih2 _ _ _ _
      | exact LeO.none _
      | refine LeO.ite ?_ ?_
      | refine LeO.bind ?_ (fun _ => ?_)
    · intro y0 y1 y2 y3 y4 y5
      unfold deadboltref5_Tokens.j1
      repeat' first
      | (with_reducible exact ih0 _ _ _)
      | (with_reducible exact ih1 _ _ _ _ _ _)
      | (with_reducible exact ih2 _ _ _ _)
      | (with_reducible exact LeO.refl _)
      | (with_reducible exact LeO.none _)
      | (with_reducible refine LeO.ite ?_ ?_)
      | (with_reducible refine LeO.bind ?_ (fun _ => ?_))
      | exact ih0 _ _ _
      | exact ih1 _ _ _ _ _ _
      | exact ih2 _ _ _ _
      | exact LeO.none _
      | refine LeO.ite ?_ ?_
      | refine LeO.bind ?_ (fun _ => ?_)
    · intro y0 y1 y2 y3
      unfold deadboltref5_Tokens.l1
      repeat' first
      | (with_reducible exact ih0 _ _ _)
      | (with_reducible exact ih1 _ _ _ _ _ _)
      | (with_reducible exact ih2 _ _ _ _)
      | (with_reducible exact LeO.refl _)
      | (with_reducible exact LeO.none _)
      | (with_reducible refine LeO.ite ?_ ?_)
      | (with_reducible refine LeO.bind ?_ (fun _ => ?_))
      | exact ih0 _ _ _
      | exact ih1 _ _ _ _ _ _
      | exact ih2 _ _ _ _
      | exact LeO.none _
      | refine LeO.ite ?_ ?_
      | refine LeO.bind ?_ (fun _ => ?_)
theorem deadboltref5_Tokens.mono : ∀ a0 k, LeO (deadboltref5_Tokens.f k a0) (deadboltref5_Tokens.f (k + 1) a0) := by
  intro a0 k
  obtain ⟨ih0, ih1, ih2⟩ := deadboltref5_Tokens.mono_l k
  unfold deadboltref5_Tokens.f
  repeat' first
      | (with_reducible exact ih0 _ _ _)
      | (with_reducible exact ih1 _ _ _ _ _ _)
      | (with_reducible exact ih2 _ _ _ _)
      | (with_reducible exact LeO.refl _)
      | (with_reducible exact LeO.none _)
      | (with_reducible refine LeO.ite ?_ ?_)
      | (with_reducible refine LeO.bind ?_ (fun _ => ?_))
      | exact ih0 _ _ _
      | exact ih1 _ _ _ _ _ _
      | exact ih2 _ _ _ _
      | exact LeO.none _
      | refine LeO.ite ?_ ?_
      | refine LeO.bind ?_ (fun _ => ?_)
set_option maxHeartbeats 8000000 in
set_option maxRecDepth 100000 in
theorem deadboltref5_Tokens.calls (k : Nat) (a0 : ByteArray) (r1 : List (S39)) (r2 : Int) (r3 : Int) (w : World) (h : deadboltref5_Tokens.f k a0 = some (r1, r2, r3)) :
    Calls Tryd.prog 13 #[.string a0] w fun e w' => ∃ v0_ : Value, e = .returned (.tuple #[v0_, .int .i64 r2, .int .i64 r3]) ∧ Kd.R k39 39 w' w.heap.size (fun _ => True) v0_ r1 ∧ Below w.heap.size w w' := by
  have hu39 := Tryd.underlying39
  have HB := Aside0.mk (Below.refl w.heap.size w)
  have H : (if (a0.size : Int) > 2000 then (some (([] : List (S39)), 0, 2)) else (deadboltref5_Tokens.l0 k a0 ([] : List (S39)) 0)) = some (r1, r2, r3) := h
  clear h
  by_cases c2 : (a0.size : Int) > 2000
  · rw [if_pos c2] at H
    have c2b0 : decide (2000 < (a0.size : Int)) = true := decide_eq_true c2
    have c2b1 : decide (2000 < a0.size) = true := decide_eq_true (by omega)
    clear c2
    simp only [Option.some.injEq, Prod.mk.injEq] at H
    obtain ⟨rfl, rfl, rfl⟩ := H
    go_enter Tryd.func13, Tryd.ntmps13
    go_wp2
    go_ret3
    exact ⟨_, by first | rfl | (simp [errW_none, errW_some] <;> rfl) | (simp [*, errW_none, errW_some] <;> rfl), by first | exact Kd.R_nil _ _ _ _ _ | exact Kd.N_nil _ _ _ _ _ | exact Kd.V_nil _ _ _ _ _ | exact Kd.Q_nil _ _ _ _ _ | exact Kd.S_nil _ _ _ _ _, by repeat (first | (with_reducible first | exact HB.out | apply below_alloc | apply pw_below_drewN | apply below_drew1) | exact HB.out)⟩
  · rw [if_neg c2] at H
    have c2b0 : decide (2000 < (a0.size : Int)) = false := decide_eq_false c2
    have c2b1 : decide (2000 < a0.size) = false := decide_eq_false (by omega)
    clear c2
    have H' := Aside0.mk H
    clear H
    go_enter Tryd.func13, Tryd.ntmps13
    go_wp2
    go_loopg [5, 6] k (fun kq v5 v6 w' => ∃ (x5_1 : List (S39)) (x6_1 : Int), v6 = .int .i64 x6_1 ∧ Aside0 (deadboltref5_Tokens.l0 kq a0 x5_1 x6_1 = some (r1, r2, r3)) ∧ Aside0 (kq ≤ k) ∧ Aside0 (Kd.R k39 39 w' w.heap.size (fun _ => True) v5 x5_1) ∧ Aside0 (Below w.heap.size w w'))
    case atStart => exact ⟨(([] : List (S39))), (0), (by first | rfl | (simp; done) | (simp [*]; done)), H', ⟨Nat.le_refl _⟩, ⟨by first | exact Kd.R_nil _ _ _ _ _ | exact Kd.N_nil _ _ _ _ _ | exact Kd.V_nil _ _ _ _ _ | exact Kd.Q_nil _ _ _ _ _ | exact Kd.S_nil _ _ _ _ _⟩, ⟨by repeat (first | (with_reducible first | exact HB.out | apply below_alloc | apply pw_below_drewN | apply below_drew1) | exact HB.out)⟩⟩
    case round =>
      clear H'
      try clear c1
      try clear c2
      try clear c2b0
      try clear c2b1
      try clear p2
      obtain ⟨x5_1, x6_1, rfl, HA, HK1, HO_5, HB⟩ := hrel
      cases gk with
      | zero => exact absurd HA.out (by simp [deadboltref5_Tokens.l0])
      | succ k1 =>
        have H := HA.out
        clear HA
        simp only [deadboltref5_Tokens.l0] at H
        by_cases c3 : x6_1 < (a0.size : Int)
        · rw [if_pos c3] at H
          have c3b0 : decide (x6_1 < (a0.size : Int)) = true := decide_eq_true c3
          clear c3
          by_cases c4 : 0 ≤ x6_1
          · rw [if_pos c4] at H
            have c4b0 : decide (0 ≤ x6_1) = true := decide_eq_true c4
            clear c4
            have HC6 := Aside0.mk H
            clear H
            have p5 : 0 ≤ (x6_1 : Int) := of_decide_eq_true (by first | (with_reducible assumption) | assumption)
            have q5 : x6_1 < (a0.size : Int) := of_decide_eq_true (by first | (with_reducible assumption) | assumption)
            have hx5 := bt_at a0 x6_1
            replace p5 := eq_true p5
            replace q5 := eq_true q5
            go_upto_region 9 with (fail)
            go_cut [22] (fun v22 wc => ∃ (kq : Nat) (x22_5 : Bool), v22 = .bool x22_5 ∧ Aside0 (deadboltref5_Tokens.j1 kq a0 x5_1 x6_1 (bt a0 x6_1) (wrap64 (x6_1 + 1)) x22_5 = some (r1, r2, r3)) ∧ Aside0 (kq ≤ k1) ∧ Aside0 (Kd.R k39 39 wc w.heap.size (fun _ => True) u5 x5_1) ∧ Aside0 (Below w.heap.size w wc))
            case first =>
              have H := HC6.out
              clear HC6
              by_cases c7 : (bt a0 x6_1) = 32
              · rw [if_pos c7] at H
                have c7b0 : ((bt a0 x6_1) == 32) = true := beq_iff_eq.mpr c7
                have c7b1 : ((bt a0 x6_1) != 32) = false := bne_eq_false_iff_eq.mpr c7
                clear c7
                (first | rw [c7b0] | (simp only [i64_w, i32_w]; rw [c7b0]) | skip)
                have H' := Aside0.mk H
                clear H
                go_wp2
                go_meet
                case rel => exact ⟨_, (true), (by first | rfl | (simp; done) | (simp [*]; done)), H', ⟨by have := HK1.out; first | omega | exact Nat.le_refl _⟩, ⟨by (with_reducible repeat (first | apply Kd.R_alloc | apply Kd.R_drewN | apply Kd.R_drew)); exact HO_5.out⟩, ⟨by repeat (first | (with_reducible first | exact HB.out | apply below_alloc | apply pw_below_drewN | apply below_drew1) | exact HB.out)⟩⟩
              · rw [if_neg c7] at H
                have c7b0 : ((bt a0 x6_1) == 32) = false := beq_eq_false_iff_ne.mpr c7
                have c7b1 : ((bt a0 x6_1) != 32) = true := bne_iff_ne.mpr c7
                (first | rw [c7b0] | (simp only [i64_w, i32_w]; rw [c7b0]) | skip)
                by_cases c8 : (bt a0 x6_1) = 9
                · rw [if_pos c8] at H
                  have c8b0 : ((bt a0 x6_1) == 9) = true := beq_iff_eq.mpr c8
                  have c8b1 : ((bt a0 x6_1) != 9) = false := bne_eq_false_iff_eq.mpr c8
                  clear c8
                  have H' := Aside0.mk H
                  clear H
                  go_wp2
                  go_meet
                  case rel => exact ⟨_, (true), (by first | rfl | (simp; done) | (simp [*]; done)), H', ⟨by have := HK1.out; first | omega | exact Nat.le_refl _⟩, ⟨by (with_reducible repeat (first | apply Kd.R_alloc | apply Kd.R_drewN | apply Kd.R_drew)); exact HO_5.out⟩, ⟨by repeat (first | (with_reducible first | exact HB.out | apply below_alloc | apply pw_below_drewN | apply below_drew1) | exact HB.out)⟩⟩
                · rw [if_neg c8] at H
                  have c8b0 : ((bt a0 x6_1) == 9) = false := beq_eq_false_iff_ne.mpr c8
                  have c8b1 : ((bt a0 x6_1) != 9) = true := bne_iff_ne.mpr c8
                  have H' := Aside0.mk H
                  clear H
                  go_wp2
                  go_meet
                  case rel => exact ⟨_, (((bt a0 x6_1) == 10)), (by first | rfl | (simp; done) | (simp [*]; done)), H', ⟨by have := HK1.out; first | omega | exact Nat.le_refl _⟩, ⟨by (with_reducible repeat (first | apply Kd.R_alloc | apply Kd.R_drewN | apply Kd.R_drew)); exact HO_5.out⟩, ⟨by repeat (first | (with_reducible first | exact HB.out | apply below_alloc | apply pw_below_drewN | apply below_drew1) | exact HB.out)⟩⟩
            case rest =>
              clear HC6
              try clear c1
              try clear c2
              try clear c2b0
              try clear c2b1
              try clear p2
              try clear c3
              try clear c3b0
              try clear c4
              try clear c4b0
              try clear p5
              try clear q5
              try clear hx5
              try clear p6
              try clear c7
              try clear c7b0
              try clear c7b1
              try clear c8
              try clear c8b0
              try clear c8b1
              try clear p2
              try clear p5
              try clear q5
              obtain ⟨kq, x22_5, rfl, HA, HJ5, HO_5, HB⟩ := hcut
              cases kq with
              | zero => exact absurd HA.out (by simp [deadboltref5_Tokens.j1])
              | succ kj5 =>
                have H := HA.out
                clear HA
                simp only [deadboltref5_Tokens.j1] at H
                by_cases c9 : x22_5 = true
                · subst c9
                  have H1 : (deadboltref5_Tokens.l0 kj5 a0 x5_1 (wrap64 (x6_1 + 1))) = some (r1, r2, r3) := by rw [if_pos rfl] at H; exact H
                  clear H
                  have H := H1
                  clear H1
                  have H' := Aside0.mk H
                  clear H
                  go_wp2
                  go_roundg kj5
                  case measure => have := HK1.out; have := HJ5.out; omega
                  case rel => exact ⟨(x5_1), ((wrap64 (x6_1 + 1))), (by first | rfl | (simp; done) | (simp [*]; done)), H', ⟨by have := HK1.out; have := HJ5.out; omega⟩, ⟨by (with_reducible repeat (first | apply Kd.R_alloc | apply Kd.R_drewN | apply Kd.R_drew)); exact HO_5.out⟩, ⟨by repeat (first | (with_reducible first | exact HB.out | apply below_alloc | apply pw_below_drewN | apply below_drew1) | exact HB.out)⟩⟩
                · replace c9 := Bool.eq_false_iff.mpr c9
                  subst c9
                  have H1 : (if (bt a0 x6_1) = 123 then (if x5_1.length < 4398046511104 then (deadboltref5_Tokens.l0 kj5 a0 (x5_1 ++ [(⟨2, x6_1, (⟨#[]⟩ : ByteArray)⟩ : S39)]) (wrap64 (x6_1 + 1))) else (none)) else (if (bt a0 x6_1) = 125 then (if x5_1.length < 4398046511104 then (deadboltref5_Tokens.l0 kj5 a0 (x5_1 ++ [(⟨3, x6_1, (⟨#[]⟩ : ByteArray)⟩ : S39)]) (wrap64 (x6_1 + 1))) else (none)) else ((deadboltref5_letter.f (bt a0 x6_1)).bind fun t125 => (if t125 = true then (deadboltref5_Tokens.l1 kj5 a0 x5_1 x6_1 (wrap64 (x6_1 + 1))) else (some (([] : List (S39)), x6_1, 6)))))) = some (r1, r2, r3) := by rw [if_neg (show ¬ (false = true) by decide)] at H; exact H
                  clear H
                  have H := H1
                  clear H1
                  by_cases c10 : (bt a0 x6_1) = 123
                  · rw [if_pos c10] at H
                    have c10b0 : ((bt a0 x6_1) == 123) = true := beq_iff_eq.mpr c10
                    have c10b1 : ((bt a0 x6_1) != 123) = false := bne_eq_false_iff_eq.mpr c10
                    clear c10
                    by_cases c11 : x5_1.length < 4398046511104
                    · rw [if_pos c11] at H
                      have LMc11 := Aside0.mk c11
                      clear c11
                      obtain ⟨y119, hy119⟩ : ∃ y_ : List (S39), y_ = (x5_1 ++ [(⟨2, x6_1, (⟨#[]⟩ : ByteArray)⟩ : S39)]) := ⟨_, rfl⟩
                      replace H : (deadboltref5_Tokens.l0 kj5 a0 y119 (wrap64 (x6_1 + 1))) = some (r1, r2, r3) := by first | (rw [hy119]; with_reducible exact H) | (have H2_ := (Option.bind_some _ _).symm.trans H; rw [hy119]; with_reducible exact H2_) | (have H2_ := (Option.bind_some _ _).symm.trans H; with_reducible exact H2_) | with_reducible exact H | (rw [hy119]; exact H) | exact H
                      have Ny119 := Aside0.mk hy119
                      clear hy119
                      have H' := Aside0.mk H
                      clear H
                      go_wp2_with (first | ((with_reducible refine gate_builtin (b := .append) (xs := #[.tmp 36, .tmp 39]) rfl ?_); at_builtin; refine Kd.R_append k39 (w0 := w) w.heap.size rfl (.tmp 36) (.tmp 39) 28 39 (.agg #[(.int .i64 0), (.int .i64 0), (.string ⟨#[]⟩)]) 32 rfl Tryd.underlying28 info39 rfl (by decide) (by omega) u5 x5_1 (⟨2, x6_1, (⟨#[]⟩ : ByteArray)⟩ : S39) [.int .i64 2, .int .i64 x6_1, .string (⟨#[]⟩ : ByteArray)] (fun _ => True) (fun _ => False) rfl rfl ?aP (fun _ hk => hk.elim) ?aF ?aO ?aB ?aS ?aL ?_; (case aP => exact k39_mkM _ _ _ (⟨2, x6_1, (⟨#[]⟩ : ByteArray)⟩ : S39)); (case aB => exact (by repeat (first | (with_reducible first | exact HB.out | apply below_alloc | apply pw_below_drewN | apply below_drew1) | exact HB.out))); (case aF => exact (fun _ _ => trivial)); (case aO => exact (by (with_reducible repeat (first | apply Kd.R_alloc | apply Kd.R_drewN | apply Kd.R_drew)); exact HO_5.out)); (case aS => exact (below_size (by repeat (first | (with_reducible first | exact HB.out | apply below_alloc | apply pw_below_drewN | apply below_drew1) | exact HB.out)))); (case aL => have := LMc11.out; omega); intro v120 w12 ho hb hg hat; rw [← Ny119.out] at ho; have n0_ := Aside0.mk (hb); have n1_ := Aside0.mk (ho); clear HB; clear HO_5; have HB := n0_; have HO121 := n1_; clear n0_ n1_; clear ho hb hg hat))
                      go_roundg kj5
                      case measure => have := HK1.out; have := HJ5.out; omega
                      case rel => exact ⟨(y119), ((wrap64 (x6_1 + 1))), (by first | rfl | (simp; done) | (simp [*]; done)), H', ⟨by have := HK1.out; have := HJ5.out; omega⟩, ⟨by (with_reducible repeat (first | apply Kd.R_alloc | apply Kd.R_drewN | apply Kd.R_drew)); exact HO121.out⟩, ⟨by repeat (first | (with_reducible first | exact HB.out | apply below_alloc | apply pw_below_drewN | apply below_drew1) | exact HB.out)⟩⟩
                    · rw [if_neg c11] at H
                      exact absurd H (by simp)
                  · rw [if_neg c10] at H
                    have c10b0 : ((bt a0 x6_1) == 123) = false := beq_eq_false_iff_ne.mpr c10
                    have c10b1 : ((bt a0 x6_1) != 123) = true := bne_iff_ne.mpr c10
                    by_cases c13 : (bt a0 x6_1) = 125
                    · rw [if_pos c13] at H
                      have c13b0 : ((bt a0 x6_1) == 125) = true := beq_iff_eq.mpr c13
                      have c13b1 : ((bt a0 x6_1) != 125) = false := bne_eq_false_iff_eq.mpr c13
                      clear c13
                      by_cases c14 : x5_1.length < 4398046511104
                      · rw [if_pos c14] at H
                        have LMc14 := Aside0.mk c14
                        clear c14
                        obtain ⟨y122, hy122⟩ : ∃ y_ : List (S39), y_ = (x5_1 ++ [(⟨3, x6_1, (⟨#[]⟩ : ByteArray)⟩ : S39)]) := ⟨_, rfl⟩
                        replace H : (deadboltref5_Tokens.l0 kj5 a0 y122 (wrap64 (x6_1 + 1))) = some (r1, r2, r3) := by first | (rw [hy122]; with_reducible exact H) | (have H2_ := (Option.bind_some _ _).symm.trans H; rw [hy122]; with_reducible exact H2_) | (have H2_ := (Option.bind_some _ _).symm.trans H; with_reducible exact H2_) | with_reducible exact H | (rw [hy122]; exact H) | exact H
                        have Ny122 := Aside0.mk hy122
                        clear hy122
                        have H' := Aside0.mk H
                        clear H
                        go_wp2_with (first | ((with_reducible refine gate_builtin (b := .append) (xs := #[.tmp 44, .tmp 47]) rfl ?_); at_builtin; refine Kd.R_append k39 (w0 := w) w.heap.size rfl (.tmp 44) (.tmp 47) 28 39 (.agg #[(.int .i64 0), (.int .i64 0), (.string ⟨#[]⟩)]) 32 rfl Tryd.underlying28 info39 rfl (by decide) (by omega) u5 x5_1 (⟨3, x6_1, (⟨#[]⟩ : ByteArray)⟩ : S39) [.int .i64 3, .int .i64 x6_1, .string (⟨#[]⟩ : ByteArray)] (fun _ => True) (fun _ => False) rfl rfl ?aP (fun _ hk => hk.elim) ?aF ?aO ?aB ?aS ?aL ?_; (case aP => exact k39_mkM _ _ _ (⟨3, x6_1, (⟨#[]⟩ : ByteArray)⟩ : S39)); (case aB => exact (by repeat (first | (with_reducible first | exact HB.out | apply below_alloc | apply pw_below_drewN | apply below_drew1) | exact HB.out))); (case aF => exact (fun _ _ => trivial)); (case aO => exact (by (with_reducible repeat (first | apply Kd.R_alloc | apply Kd.R_drewN | apply Kd.R_drew)); exact HO_5.out)); (case aS => exact (below_size (by repeat (first | (with_reducible first | exact HB.out | apply below_alloc | apply pw_below_drewN | apply below_drew1) | exact HB.out)))); (case aL => have := LMc14.out; omega); intro v123 w15 ho hb hg hat; rw [← Ny122.out] at ho; have n0_ := Aside0.mk (hb); have n1_ := Aside0.mk (ho); clear HB; clear HO_5; have HB := n0_; have HO124 := n1_; clear n0_ n1_; clear ho hb hg hat))
                        go_roundg kj5
                        case measure => have := HK1.out; have := HJ5.out; omega
                        case rel => exact ⟨(y122), ((wrap64 (x6_1 + 1))), (by first | rfl | (simp; done) | (simp [*]; done)), H', ⟨by have := HK1.out; have := HJ5.out; omega⟩, ⟨by (with_reducible repeat (first | apply Kd.R_alloc | apply Kd.R_drewN | apply Kd.R_drew)); exact HO124.out⟩, ⟨by repeat (first | (with_reducible first | exact HB.out | apply below_alloc | apply pw_below_drewN | apply below_drew1) | exact HB.out)⟩⟩
                      · rw [if_neg c14] at H
                        exact absurd H (by simp)
                    · rw [if_neg c13] at H
                      have c13b0 : ((bt a0 x6_1) == 125) = false := beq_eq_false_iff_ne.mpr c13
                      have c13b1 : ((bt a0 x6_1) != 125) = true := bne_iff_ne.mpr c13
                      replace H := Option.bind_eq_some_iff.mp H
                      obtain ⟨t125, A160, H⟩ := H
                      replace H : (if t125 = true then (deadboltref5_Tokens.l1 kj5 a0 x5_1 x6_1 (wrap64 (x6_1 + 1))) else (some (([] : List (S39)), x6_1, 6))) = some (r1, r2, r3) := H
                      have A16 := Aside0.mk A160
                      clear A160
                      by_cases c17 : t125 = true
                      · subst c17
                        have H1 : (deadboltref5_Tokens.l1 kj5 a0 x5_1 x6_1 (wrap64 (x6_1 + 1))) = some (r1, r2, r3) := by rw [if_pos rfl] at H; exact H
                        clear H
                        have H := H1
                        clear H1
                        have H' := Aside0.mk H
                        clear H
                        go_wp2_with (first | ((with_reducible refine gate_callee (f := 20) rfl ?_); refine goesL_ (some 51) rfl rfl Tryd.func20 (by kernel_rfl) rfl #[.int .u8 (bt a0 x6_1)] rfl (by (try simp only [List.map_toArray, List.map_cons, List.map_nil]); first | done | rfl | (simp only [List.length_drop, List.length_take]; rfl)) ?_; (with_reducible refine (deadboltref5_letter.calls (bt a0 x6_1) true _ A16.out).mono ?_); rintro e w' ⟨rfl, ⟨nd, rfl⟩⟩; refine ⟨_, rfl, ?_⟩))
                        go_loopg [8] kj5 (fun kq v8 w' => ∃ (x8_3 : Int), v8 = .int .i64 x8_3 ∧ Aside0 (deadboltref5_Tokens.l1 kq a0 x5_1 x6_1 x8_3 = some (r1, r2, r3)) ∧ Aside0 (kq ≤ kj5) ∧ Aside0 (Kd.R k39 39 w' w.heap.size (fun _ => True) u5 x5_1) ∧ Aside0 (Below w.heap.size w w'))
                        case atStart => exact ⟨((wrap64 (x6_1 + 1))), (by first | rfl | (simp; done) | (simp [*]; done)), H', ⟨Nat.le_refl _⟩, ⟨by (with_reducible repeat (first | apply Kd.R_alloc | apply Kd.R_drewN | apply Kd.R_drew)); exact HO_5.out⟩, ⟨by repeat (first | (with_reducible first | exact HB.out | apply below_alloc | apply pw_below_drewN | apply below_drew1) | exact HB.out)⟩⟩
                        case round =>
                          clear H'
                          try clear c1
                          try clear c2
                          try clear c2b0
                          try clear c2b1
                          try clear p2
                          try clear c3
                          try clear c3b0
                          try clear c4
                          try clear c4b0
                          try clear p5
                          try clear q5
                          try clear hx5
                          try clear p6
                          try clear c7
                          try clear c7b0
                          try clear c7b1
                          try clear c8
                          try clear c8b0
                          try clear c8b1
                          try clear c9
                          try clear c10
                          try clear c10b0
                          try clear c10b1
                          try clear c11
                          try clear c13
                          try clear c13b0
                          try clear c13b1
                          try clear c14
                          try clear c17
                          try clear p2
                          try clear p5
                          try clear p6
                          try clear q5
                          obtain ⟨x8_3, rfl, HA, HK3, HO_5, HB⟩ := hrel
                          cases gk with
                          | zero => exact absurd HA.out (by simp [deadboltref5_Tokens.l1])
                          | succ k3 =>
                            have H := HA.out
                            clear HA
                            simp only [deadboltref5_Tokens.l1] at H
                            by_cases c18 : x8_3 < (a0.size : Int)
                            · rw [if_pos c18] at H
                              have c18b0 : decide (x8_3 < (a0.size : Int)) = true := decide_eq_true c18
                              clear c18
                              by_cases c19 : 0 ≤ x8_3
                              · rw [if_pos c19] at H
                                have c19b0 : decide (0 ≤ x8_3) = true := decide_eq_true c19
                                clear c19
                                replace H := Option.bind_eq_some_iff.mp H
                                obtain ⟨t126, A210, H⟩ := H
                                replace H : (if t126 = true then (deadboltref5_Tokens.l1 k3 a0 x5_1 x6_1 (wrap64 (x8_3 + 1))) else ((deadboltref5_digit.f (bt a0 x8_3)).bind fun t127 => (if t127 = true then (deadboltref5_Tokens.l1 k3 a0 x5_1 x6_1 (wrap64 (x8_3 + 1))) else (if 0 ≤ x6_1 then (if x6_1 ≤ x8_3 then (if x8_3 ≤ (a0.size : Int) then (if x5_1.length < 4398046511104 then (deadboltref5_Tokens.l0 k3 a0 (x5_1 ++ [(⟨1, x6_1, a0.extract (x6_1 : Int).toNat (x8_3 : Int).toNat⟩ : S39)]) x8_3) else (none)) else (none)) else (none)) else (none))))) = some (r1, r2, r3) := H
                                have A21 := Aside0.mk A210
                                clear A210
                                by_cases c22 : t126 = true
                                · subst c22
                                  have H1 : (deadboltref5_Tokens.l1 k3 a0 x5_1 x6_1 (wrap64 (x8_3 + 1))) = some (r1, r2, r3) := by rw [if_pos rfl] at H; exact H
                                  clear H
                                  have H := H1
                                  clear H1
                                  have H' := Aside0.mk H
                                  clear H
                                  have p20 : 0 ≤ (x8_3 : Int) := of_decide_eq_true (by first | (with_reducible assumption) | assumption)
                                  have q20 : x8_3 < (a0.size : Int) := of_decide_eq_true (by first | (with_reducible assumption) | assumption)
                                  have hx20 := bt_at a0 x8_3
                                  replace p20 := eq_true p20
                                  replace q20 := eq_true q20
                                  go_wp2_with (first | (go_at_call 20; (with_reducible refine (deadboltref5_letter.calls (bt a0 x8_3) true _ A21.out).mono ?_); rintro e w' ⟨rfl, ⟨nd, rfl⟩⟩))
                                  go_roundg k3
                                  case measure => have := HK1.out; have := HJ5.out; have := HK3.out; omega
                                  case rel => exact ⟨(wrap64 (x8_3 + 1)), (by first | rfl | (simp; done) | (simp [*]; done)), H', ⟨by have := HK1.out; have := HJ5.out; have := HK3.out; omega⟩, ⟨by (with_reducible repeat (first | apply Kd.R_alloc | apply Kd.R_drewN | apply Kd.R_drew)); exact HO_5.out⟩, ⟨by repeat (first | (with_reducible first | exact HB.out | apply below_alloc | apply pw_below_drewN | apply below_drew1) | exact HB.out)⟩⟩
                                · replace c22 := Bool.eq_false_iff.mpr c22
                                  subst c22
                                  have H1 : ((deadboltref5_digit.f (bt a0 x8_3)).bind fun t127 => (if t127 = true then (deadboltref5_Tokens.l1 k3 a0 x5_1 x6_1 (wrap64 (x8_3 + 1))) else (if 0 ≤ x6_1 then (if x6_1 ≤ x8_3 then (if x8_3 ≤ (a0.size : Int) then (if x5_1.length < 4398046511104 then (deadboltref5_Tokens.l0 k3 a0 (x5_1 ++ [(⟨1, x6_1, a0.extract (x6_1 : Int).toNat (x8_3 : Int).toNat⟩ : S39)]) x8_3) else (none)) else (none)) else (none)) else (none)))) = some (r1, r2, r3) := by rw [if_neg (show ¬ (false = true) by decide)] at H; exact H
                                  clear H
                                  have H := H1
                                  clear H1
                                  replace H := Option.bind_eq_some_iff.mp H
                                  obtain ⟨t127, A240, H⟩ := H
                                  replace H : (if t127 = true then (deadboltref5_Tokens.l1 k3 a0 x5_1 x6_1 (wrap64 (x8_3 + 1))) else (if 0 ≤ x6_1 then (if x6_1 ≤ x8_3 then (if x8_3 ≤ (a0.size : Int) then (if x5_1.length < 4398046511104 then (deadboltref5_Tokens.l0 k3 a0 (x5_1 ++ [(⟨1, x6_1, a0.extract (x6_1 : Int).toNat (x8_3 : Int).toNat⟩ : S39)]) x8_3) else (none)) else (none)) else (none)) else (none))) = some (r1, r2, r3) := H
                                  have A24 := Aside0.mk A240
                                  clear A240
                                  by_cases c25 : t127 = true
                                  · subst c25
                                    have H1 : (deadboltref5_Tokens.l1 k3 a0 x5_1 x6_1 (wrap64 (x8_3 + 1))) = some (r1, r2, r3) := by rw [if_pos rfl] at H; exact H
                                    clear H
                                    have H := H1
                                    clear H1
                                    have H' := Aside0.mk H
                                    clear H
                                    have p20 : 0 ≤ (x8_3 : Int) := of_decide_eq_true (by first | (with_reducible assumption) | assumption)
                                    have q20 : x8_3 < (a0.size : Int) := of_decide_eq_true (by first | (with_reducible assumption) | assumption)
                                    have hx20 := bt_at a0 x8_3
                                    replace p20 := eq_true p20
                                    replace q20 := eq_true q20
                                    go_wp2_with (first | (go_at_call 20; (with_reducible refine (deadboltref5_letter.calls (bt a0 x8_3) false _ A21.out).mono ?_); rintro e w' ⟨rfl, ⟨nd, rfl⟩⟩; have p23 : 0 ≤ (x8_3 : Int) := of_decide_eq_true (by first | (with_reducible assumption) | assumption); have q23 : x8_3 < (a0.size : Int) := of_decide_eq_true (by first | (with_reducible assumption) | assumption); have hx23 := bt_at a0 x8_3; replace p23 := eq_true p23; replace q23 := eq_true q23) | (go_at_call 21; (with_reducible refine (deadboltref5_digit.calls (bt a0 x8_3) true _ A24.out).mono ?_); rintro e w' ⟨rfl, ⟨nd, rfl⟩⟩))
                                    go_roundg k3
                                    case measure => have := HK1.out; have := HJ5.out; have := HK3.out; omega
                                    case rel => exact ⟨(wrap64 (x8_3 + 1)), (by first | rfl | (simp; done) | (simp [*]; done)), H', ⟨by have := HK1.out; have := HJ5.out; have := HK3.out; omega⟩, ⟨by (with_reducible repeat (first | apply Kd.R_alloc | apply Kd.R_drewN | apply Kd.R_drew)); exact HO_5.out⟩, ⟨by repeat (first | (with_reducible first | exact HB.out | apply below_alloc | apply pw_below_drewN | apply below_drew1) | exact HB.out)⟩⟩
                                  · replace c25 := Bool.eq_false_iff.mpr c25
                                    subst c25
                                    have H1 : (if 0 ≤ x6_1 then (if x6_1 ≤ x8_3 then (if x8_3 ≤ (a0.size : Int) then (if x5_1.length < 4398046511104 then (deadboltref5_Tokens.l0 k3 a0 (x5_1 ++ [(⟨1, x6_1, a0.extract (x6_1 : Int).toNat (x8_3 : Int).toNat⟩ : S39)]) x8_3) else (none)) else (none)) else (none)) else (none)) = some (r1, r2, r3) := by rw [if_neg (show ¬ (false = true) by decide)] at H; exact H
                                    clear H
                                    have H := H1
                                    clear H1
                                    by_cases c26 : 0 ≤ x6_1
                                    · rw [if_pos c26] at H
                                      have c26b0 := eq_true c26
                                      have c26b1 : decide (0 ≤ x6_1) = true := decide_eq_true c26
                                      clear c26
                                      by_cases c27 : x6_1 ≤ x8_3
                                      · rw [if_pos c27] at H
                                        have c27b0 := eq_true c27
                                        have c27b1 : decide (x6_1 ≤ x8_3) = true := decide_eq_true c27
                                        clear c27
                                        by_cases c28 : x8_3 ≤ (a0.size : Int)
                                        · rw [if_pos c28] at H
                                          have c28b0 := eq_true c28
                                          have c28b1 : decide (x8_3 ≤ (a0.size : Int)) = true := decide_eq_true c28
                                          clear c28
                                          by_cases c29 : x5_1.length < 4398046511104
                                          · rw [if_pos c29] at H
                                            have LMc29 := Aside0.mk c29
                                            clear c29
                                            obtain ⟨y128, hy128⟩ : ∃ y_ : List (S39), y_ = (x5_1 ++ [(⟨1, x6_1, a0.extract (x6_1 : Int).toNat (x8_3 : Int).toNat⟩ : S39)]) := ⟨_, rfl⟩
                                            replace H : (deadboltref5_Tokens.l0 k3 a0 y128 x8_3) = some (r1, r2, r3) := by first | (rw [hy128]; with_reducible exact H) | (have H2_ := (Option.bind_some _ _).symm.trans H; rw [hy128]; with_reducible exact H2_) | (have H2_ := (Option.bind_some _ _).symm.trans H; with_reducible exact H2_) | with_reducible exact H | (rw [hy128]; exact H) | exact H
                                            have Ny128 := Aside0.mk hy128
                                            clear hy128
                                            have H' := Aside0.mk H
                                            clear H
                                            have p20 : 0 ≤ (x8_3 : Int) := of_decide_eq_true (by first | (with_reducible assumption) | assumption)
                                            have q20 : x8_3 < (a0.size : Int) := of_decide_eq_true (by first | (with_reducible assumption) | assumption)
                                            have hx20 := bt_at a0 x8_3
                                            replace p20 := eq_true p20
                                            replace q20 := eq_true q20
                                            go_wp2_with (first | (go_at_call 20; (with_reducible refine (deadboltref5_letter.calls (bt a0 x8_3) false _ A21.out).mono ?_); rintro e w' ⟨rfl, ⟨nd, rfl⟩⟩; have p23 : 0 ≤ (x8_3 : Int) := of_decide_eq_true (by first | (with_reducible assumption) | assumption); have q23 : x8_3 < (a0.size : Int) := of_decide_eq_true (by first | (with_reducible assumption) | assumption); have hx23 := bt_at a0 x8_3; replace p23 := eq_true p23; replace q23 := eq_true q23) | (go_at_call 21; (with_reducible refine (deadboltref5_digit.calls (bt a0 x8_3) false _ A24.out).mono ?_); rintro e w' ⟨rfl, ⟨nd, rfl⟩⟩) | ((with_reducible refine gate_builtin (b := .append) (xs := #[.tmp 70, .tmp 77]) rfl ?_); at_builtin; refine Kd.R_append k39 (w0 := w) w.heap.size rfl (.tmp 70) (.tmp 77) 28 39 (.agg #[(.int .i64 0), (.int .i64 0), (.string ⟨#[]⟩)]) 32 rfl Tryd.underlying28 info39 rfl (by decide) (by omega) u5 x5_1 (⟨1, x6_1, a0.extract (x6_1 : Int).toNat (x8_3 : Int).toNat⟩ : S39) [.int .i64 1, .int .i64 x6_1, .string (a0.extract (x6_1 : Int).toNat (x8_3 : Int).toNat)] (fun _ => True) (fun _ => False) rfl rfl ?aP (fun _ hk => hk.elim) ?aF ?aO ?aB ?aS ?aL ?_; (case aP => exact k39_mkM _ _ _ (⟨1, x6_1, a0.extract (x6_1 : Int).toNat (x8_3 : Int).toNat⟩ : S39)); (case aB => exact (by repeat (first | (with_reducible first | exact HB.out | apply below_alloc | apply pw_below_drewN | apply below_drew1) | exact HB.out))); (case aF => exact (fun _ _ => trivial)); (case aO => exact (by (with_reducible repeat (first | apply Kd.R_alloc | apply Kd.R_drewN | apply Kd.R_drew)); exact HO_5.out)); (case aS => exact (below_size (by repeat (first | (with_reducible first | exact HB.out | apply below_alloc | apply pw_below_drewN | apply below_drew1) | exact HB.out)))); (case aL => have := LMc29.out; omega); intro v129 w30 ho hb hg hat; rw [← Ny128.out] at ho; have n0_ := Aside0.mk (hb); have n1_ := Aside0.mk (ho); clear HB; clear HO_5; have HB := n0_; have HO130 := n1_; clear n0_ n1_; clear ho hb hg hat))
                                            go_roundg k3
                                            case measure => have := HK1.out; have := HJ5.out; have := HK3.out; omega
                                            case rel => exact ⟨(y128), (x8_3), (by first | rfl | (simp; done) | (simp [*]; done)), H', ⟨by have := HK1.out; have := HJ5.out; have := HK3.out; omega⟩, ⟨by (with_reducible repeat (first | apply Kd.R_alloc | apply Kd.R_drewN | apply Kd.R_drew)); exact HO130.out⟩, ⟨by repeat (first | (with_reducible first | exact HB.out | apply below_alloc | apply pw_below_drewN | apply below_drew1) | exact HB.out)⟩⟩
                                          · rw [if_neg c29] at H
                                            exact absurd H (by simp)
                                        · rw [if_neg c28] at H
                                          exact absurd H (by simp)
                                      · rw [if_neg c27] at H
                                        exact absurd H (by simp)
                                    · rw [if_neg c26] at H
                                      exact absurd H (by simp)
                              · rw [if_neg c19] at H
                                exact absurd H (by simp)
                            · rw [if_neg c18] at H
                              have c18b0 : decide (x8_3 < (a0.size : Int)) = false := decide_eq_false c18
                              clear c18
                              by_cases c31 : 0 ≤ x6_1
                              · rw [if_pos c31] at H
                                have c31b0 := eq_true c31
                                have c31b1 : decide (0 ≤ x6_1) = true := decide_eq_true c31
                                clear c31
                                by_cases c32 : x6_1 ≤ x8_3
                                · rw [if_pos c32] at H
                                  have c32b0 := eq_true c32
                                  have c32b1 : decide (x6_1 ≤ x8_3) = true := decide_eq_true c32
                                  clear c32
                                  by_cases c33 : x8_3 ≤ (a0.size : Int)
                                  · rw [if_pos c33] at H
                                    have c33b0 := eq_true c33
                                    have c33b1 : decide (x8_3 ≤ (a0.size : Int)) = true := decide_eq_true c33
                                    clear c33
                                    by_cases c34 : x5_1.length < 4398046511104
                                    · rw [if_pos c34] at H
                                      have LMc34 := Aside0.mk c34
                                      clear c34
                                      obtain ⟨y131, hy131⟩ : ∃ y_ : List (S39), y_ = (x5_1 ++ [(⟨1, x6_1, a0.extract (x6_1 : Int).toNat (x8_3 : Int).toNat⟩ : S39)]) := ⟨_, rfl⟩
                                      replace H : (deadboltref5_Tokens.l0 k3 a0 y131 x8_3) = some (r1, r2, r3) := by first | (rw [hy131]; with_reducible exact H) | (have H2_ := (Option.bind_some _ _).symm.trans H; rw [hy131]; with_reducible exact H2_) | (have H2_ := (Option.bind_some _ _).symm.trans H; with_reducible exact H2_) | with_reducible exact H | (rw [hy131]; exact H) | exact H
                                      have Ny131 := Aside0.mk hy131
                                      clear hy131
                                      have H' := Aside0.mk H
                                      clear H
                                      go_wp2_with (first | ((with_reducible refine gate_builtin (b := .append) (xs := #[.tmp 70, .tmp 77]) rfl ?_); at_builtin; refine Kd.R_append k39 (w0 := w) w.heap.size rfl (.tmp 70) (.tmp 77) 28 39 (.agg #[(.int .i64 0), (.int .i64 0), (.string ⟨#[]⟩)]) 32 rfl Tryd.underlying28 info39 rfl (by decide) (by omega) u5 x5_1 (⟨1, x6_1, a0.extract (x6_1 : Int).toNat (x8_3 : Int).toNat⟩ : S39) [.int .i64 1, .int .i64 x6_1, .string (a0.extract (x6_1 : Int).toNat (x8_3 : Int).toNat)] (fun _ => True) (fun _ => False) rfl rfl ?aP (fun _ hk => hk.elim) ?aF ?aO ?aB ?aS ?aL ?_; (case aP => exact k39_mkM _ _ _ (⟨1, x6_1, a0.extract (x6_1 : Int).toNat (x8_3 : Int).toNat⟩ : S39)); (case aB => exact (by repeat (first | (with_reducible first | exact HB.out | apply below_alloc | apply pw_below_drewN | apply below_drew1) | exact HB.out))); (case aF => exact (fun _ _ => trivial)); (case aO => exact (by (with_reducible repeat (first | apply Kd.R_alloc | apply Kd.R_drewN | apply Kd.R_drew)); exact HO_5.out)); (case aS => exact (below_size (by repeat (first | (with_reducible first | exact HB.out | apply below_alloc | apply pw_below_drewN | apply below_drew1) | exact HB.out)))); (case aL => have := LMc34.out; omega); intro v132 w35 ho hb hg hat; rw [← Ny131.out] at ho; have n0_ := Aside0.mk (hb); have n1_ := Aside0.mk (ho); clear HB; clear HO_5; have HB := n0_; have HO133 := n1_; clear n0_ n1_; clear ho hb hg hat))
                                      go_roundg k3
                                      case measure => have := HK1.out; have := HJ5.out; have := HK3.out; omega
                                      case rel => exact ⟨(y131), (x8_3), (by first | rfl | (simp; done) | (simp [*]; done)), H', ⟨by have := HK1.out; have := HJ5.out; have := HK3.out; omega⟩, ⟨by (with_reducible repeat (first | apply Kd.R_alloc | apply Kd.R_drewN | apply Kd.R_drew)); exact HO133.out⟩, ⟨by repeat (first | (with_reducible first | exact HB.out | apply below_alloc | apply pw_below_drewN | apply below_drew1) | exact HB.out)⟩⟩
                                    · rw [if_neg c34] at H
                                      exact absurd H (by simp)
                                  · rw [if_neg c33] at H
                                    exact absurd H (by simp)
                                · rw [if_neg c32] at H
                                  exact absurd H (by simp)
                              · rw [if_neg c31] at H
                                exact absurd H (by simp)
                      · replace c17 := Bool.eq_false_iff.mpr c17
                        subst c17
                        have H1 : (some (([] : List (S39)), x6_1, 6)) = some (r1, r2, r3) := by rw [if_neg (show ¬ (false = true) by decide)] at H; exact H
                        clear H
                        have H := H1
                        clear H1
                        simp only [Option.some.injEq, Prod.mk.injEq] at H
                        obtain ⟨rfl, rfl, rfl⟩ := H
                        go_wp2_with (first | ((with_reducible refine gate_callee (f := 20) rfl ?_); refine goesL_ (some 51) rfl rfl Tryd.func20 (by kernel_rfl) rfl #[.int .u8 (bt a0 x6_1)] rfl (by (try simp only [List.map_toArray, List.map_cons, List.map_nil]); first | done | rfl | (simp only [List.length_drop, List.length_take]; rfl)) ?_; (with_reducible refine (deadboltref5_letter.calls (bt a0 x6_1) false _ A16.out).mono ?_); rintro e w' ⟨rfl, ⟨nd, rfl⟩⟩; refine ⟨_, rfl, ?_⟩))
                        go_ret3
                        exact ⟨_, by first | rfl | (simp [errW_none, errW_some] <;> rfl) | (simp [*, errW_none, errW_some] <;> rfl), by first | exact Kd.R_nil _ _ _ _ _ | exact Kd.N_nil _ _ _ _ _ | exact Kd.V_nil _ _ _ _ _ | exact Kd.Q_nil _ _ _ _ _ | exact Kd.S_nil _ _ _ _ _, by repeat (first | (with_reducible first | exact HB.out | apply below_alloc | apply pw_below_drewN | apply below_drew1) | exact HB.out)⟩
          · rw [if_neg c4] at H
            exact absurd H (by simp)
        · rw [if_neg c3] at H
          have c3b0 : decide (x6_1 < (a0.size : Int)) = false := decide_eq_false c3
          clear c3
          simp only [Option.some.injEq, Prod.mk.injEq] at H
          obtain ⟨rfl, rfl, rfl⟩ := H
          go_wp2
          go_ret3
          exact ⟨_, by first | rfl | (simp [errW_none, errW_some] <;> rfl) | (simp [*, errW_none, errW_some] <;> rfl), by (with_reducible repeat (first | apply Kd.R_alloc | apply Kd.R_drewN | apply Kd.R_drew)); exact HO_5.out, by repeat (first | (with_reducible first | exact HB.out | apply below_alloc | apply pw_below_drewN | apply below_drew1) | exact HB.out)⟩

end Go.Proofs.YtcabcedlnikbaaaDoor.Q
