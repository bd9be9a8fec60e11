-- written by wip/xprint.py (over the kit's print.py) out of the translation. Not trusted: Lean checks it.
import Derived.Test.YtkmafndljelopaaDoorQ0
import Derived.Test.YtkmafndljelopaaDoorQ1
namespace Go.Proofs.YtkmafndljelopaaDoor.Q
open Go.RowKit Go.Proofs.YtkmafndljelopaaDoorW.PrintWords Go.Proofs.YtkmafndljelopaaDoorW.PrintLast Go.Proofs.YtkmafndljelopaaDoorW.PrintMore
attribute [local go_sem] max2_int min2_int max_two min_two max_three min_three max_four min_four   -- for this text's walks alone
set_option linter.unusedVariables false
set_option linter.unusedSimpArgs false

/-! ### deadboltref6_block: function 50 -/
mutual
def deadboltref6_block.l0 : Nat → List (S86) → ByteArray → Int → Option (ByteArray)
  | 0, _, _, _ => none
  | k + 1, x0, x3, x4 => if x4 < (x0.length : Int) then (if 0 ≤ x4 then ((deadboltref6_Verb.f ((rd_T86 x0 x4).f0)).bind fun t201 => (if x3.size + t201.size ≤ 9223372036854775807 then (if (x3 ++ t201).size + 1 ≤ 9223372036854775807 then (if ((rd_T86 x0 x4).f0) = 7 then ((deadboltref6_block.f k ((rd_T86 x0 x4).f3)).bind fun t204 => (if ((x3 ++ t201) ++ (⟨#[32]⟩ : ByteArray)).size + t204.size ≤ 9223372036854775807 then (if (((x3 ++ t201) ++ (⟨#[32]⟩ : ByteArray)) ++ t204).size + 1 ≤ 9223372036854775807 then (if (((rd_T86 x0 x4).f4).length : Int) > 0 then (if ((((x3 ++ t201) ++ (⟨#[32]⟩ : ByteArray)) ++ t204) ++ (⟨#[32]⟩ : ByteArray)).size + 5 ≤ 9223372036854775807 then ((deadboltref6_block.f k ((rd_T86 x0 x4).f4)).bind fun t207 => (if (((((x3 ++ t201) ++ (⟨#[32]⟩ : ByteArray)) ++ t204) ++ (⟨#[32]⟩ : ByteArray)) ++ (⟨#[101, 108, 115, 101, 32]⟩ : ByteArray)).size + t207.size ≤ 9223372036854775807 then (if ((((((x3 ++ t201) ++ (⟨#[32]⟩ : ByteArray)) ++ t204) ++ (⟨#[32]⟩ : ByteArray)) ++ (⟨#[101, 108, 115, 101, 32]⟩ : ByteArray)) ++ t207).size + 1 ≤ 9223372036854775807 then (deadboltref6_block.l0 k x0 (((((((x3 ++ t201) ++ (⟨#[32]⟩ : ByteArray)) ++ t204) ++ (⟨#[32]⟩ : ByteArray)) ++ (⟨#[101, 108, 115, 101, 32]⟩ : ByteArray)) ++ t207) ++ (⟨#[32]⟩ : ByteArray)) (wrap64 (x4 + 1))) else (none)) else (none))) else (none)) else (deadboltref6_block.l0 k x0 ((((x3 ++ t201) ++ (⟨#[32]⟩ : ByteArray)) ++ t204) ++ (⟨#[32]⟩ : ByteArray)) (wrap64 (x4 + 1)))) else (none)) else (none))) else (if ((rd_T86 x0 x4).f0) = 8 then ((deadboltref6_block.f k ((rd_T86 x0 x4).f3)).bind fun t209 => (if ((x3 ++ t201) ++ (⟨#[32]⟩ : ByteArray)).size + t209.size ≤ 9223372036854775807 then (if (((x3 ++ t201) ++ (⟨#[32]⟩ : ByteArray)) ++ t209).size + 1 ≤ 9223372036854775807 then (deadboltref6_block.l0 k x0 ((((x3 ++ t201) ++ (⟨#[32]⟩ : ByteArray)) ++ t209) ++ (⟨#[32]⟩ : ByteArray)) (wrap64 (x4 + 1))) else (none)) else (none))) else (if ((x3 ++ t201) ++ (⟨#[32]⟩ : ByteArray)).size + ((rd_T86 x0 x4).f2).size ≤ 9223372036854775807 then (if (((x3 ++ t201) ++ (⟨#[32]⟩ : ByteArray)) ++ ((rd_T86 x0 x4).f2)).size + 1 ≤ 9223372036854775807 then (deadboltref6_block.l0 k x0 ((((x3 ++ t201) ++ (⟨#[32]⟩ : ByteArray)) ++ ((rd_T86 x0 x4).f2)) ++ (⟨#[32]⟩ : ByteArray)) (wrap64 (x4 + 1))) else (none)) else (none)))) else (none)) else (none))) else (none)) else (if x3.size + 1 ≤ 9223372036854775807 then (some (x3 ++ (⟨#[125]⟩ : ByteArray))) else (none))
def deadboltref6_block.f : Nat → List (S86) → Option (ByteArray)
  | 0, _ => none
  | k + 1, l0 => deadboltref6_block.l0 k l0 (⟨#[123, 32]⟩ : ByteArray) 0
end
theorem deadboltref6_block.mono_l : ∀ k, (∀ y0, LeO (deadboltref6_block.f k y0) (deadboltref6_block.f (k + 1) y0)) ∧ (∀ y0 y1 y2, LeO (deadboltref6_block.l0 k y0 y1 y2) (deadboltref6_block.l0 (k + 1) y0 y1 y2))
  | 0 => ⟨fun _ r h => by simp [deadboltref6_block.f] at h, fun _ _ _ r h => by simp [deadboltref6_block.l0] at h⟩
  | k + 1 => by
    obtain ⟨ih0, ih1⟩ := deadboltref6_block.mono_l k
    refine ⟨?_, ?_⟩
    · intro y0
      unfold deadboltref6_block.f
      repeat' first
      | (with_reducible exact ih0 _)
      | (with_reducible exact ih1 _ _ _)
      | (with_reducible exact LeO.refl _)
      | (with_reducible exact LeO.none _)
      | (with_reducible refine LeO.ite ?_ ?_)
      | (with_reducible refine LeO.bind ?_ (fun _ => ?_))
      | exact ih0 _
      | exact ih1 _ _ _
      | exact LeO.none _
      | refine LeO.ite ?_ ?_
      | refine LeO.bind ?_ (fun _ => ?_)
    · intro y0 y1 y2
      unfold deadboltref6_block.l0
      repeat' first
      | (with_reducible exact ih0 _)
      | (with_reducible exact ih1 _ _ _)
      | (with_reducible exact LeO.refl _)
      | (with_reducible exact LeO.none _)
      | (with_reducible refine LeO.ite ?_ ?_)
      | (with_reducible refine LeO.bind ?_ (fun _ => ?_))
      | exact ih0 _
      | exact ih1 _ _ _
      | exact LeO.none _
      | refine LeO.ite ?_ ?_
      | refine LeO.bind ?_ (fun _ => ?_)
theorem deadboltref6_block.mono : ∀ a0 k, LeO (deadboltref6_block.f k a0) (deadboltref6_block.f (k + 1) a0) := by
  intro a0 k
  obtain ⟨ih0, ih1⟩ := deadboltref6_block.mono_l k
  exact ih0 a0
set_option maxHeartbeats 8000000 in
set_option maxRecDepth 100000 in
theorem deadboltref6_block.calls (k : Nat) : ∀ (A0 : Option Addr) (c0 : Nat) (l0 : List (S86)) (r : ByteArray) (w : World) (hr0 : Kd.C k86 w A0 l0.length l0) (hc0 : l0.length ≤ c0) (h : deadboltref6_block.f k l0 = some r),
    Calls Tryd.prog 50 #[.slice A0 l0.length c0] w fun e w' => e = .returned (.string r) ∧ Below w.heap.size w w' := by
  induction k using Nat.strongRecOn with
  | _ k ih =>
  intro A0 c0 l0 r w hr0 hc0 h
  cases k with
  | zero => exact absurd h (by simp [deadboltref6_block.f])
  | succ k =>
  simp only [deadboltref6_block.f] at h
  have HR0 := Aside0.mk hr0
  have HC0 := Aside0.mk hc0
  clear hr0 hc0
  have HB := Aside0.mk (Below.refl w.heap.size w)
  have H : (deadboltref6_block.l0 k l0 (⟨#[123, 32]⟩ : ByteArray) 0) = some r := h
  clear h
  have H' := Aside0.mk H
  clear H
  go_enter Tryd.func50, Tryd.ntmps50
  go_wp2
  go_loopg [3, 4] k (fun kq v3 v4 w' => ∃ (x3_1 : ByteArray) (x4_1 : Int), v3 = .string x3_1 ∧ v4 = .int .i64 x4_1 ∧ Aside0 (deadboltref6_block.l0 kq l0 x3_1 x4_1 = some r) ∧ Aside0 (kq ≤ k) ∧ Aside0 (Below w.heap.size w w'))
  case atStart => exact ⟨((⟨#[123, 32]⟩ : ByteArray)), (0), (by first | rfl | (simp; done) | (simp [*]; done)), (by first | rfl | (simp; done) | (simp [*]; done)), H', ⟨Nat.le_refl _⟩, ⟨by repeat (first | (with_reducible first | exact HB.out | apply below_alloc | apply pw_below_drewN | apply below_drew1) | exact HB.out)⟩⟩
  case round =>
    clear H'
    obtain ⟨x3_1, x4_1, rfl, rfl, HA, HK1, HB⟩ := hrel
    cases gk with
    | zero => exact absurd HA.out (by simp [deadboltref6_block.l0])
    | succ k1 =>
      have H := HA.out
      clear HA
      simp only [deadboltref6_block.l0] at H
      by_cases c2 : x4_1 < (l0.length : Int)
      · rw [if_pos c2] at H
        have c2b0 : decide (x4_1 < (l0.length : Int)) = true := decide_eq_true c2
        clear c2
        by_cases c3 : 0 ≤ x4_1
        · rw [if_pos c3] at H
          have c3b0 : decide (0 ≤ x4_1) = true := decide_eq_true c3
          clear c3
          replace H := Option.bind_eq_some_iff.mp H
          obtain ⟨t201, A40, H⟩ := H
          replace H : (if x3_1.size + t201.size ≤ 9223372036854775807 then (if (x3_1 ++ t201).size + 1 ≤ 9223372036854775807 then (if ((rd_T86 l0 x4_1).f0) = 7 then ((deadboltref6_block.f k1 ((rd_T86 l0 x4_1).f3)).bind fun t204 => (if ((x3_1 ++ t201) ++ (⟨#[32]⟩ : ByteArray)).size + t204.size ≤ 9223372036854775807 then (if (((x3_1 ++ t201) ++ (⟨#[32]⟩ : ByteArray)) ++ t204).size + 1 ≤ 9223372036854775807 then (if (((rd_T86 l0 x4_1).f4).length : Int) > 0 then (if ((((x3_1 ++ t201) ++ (⟨#[32]⟩ : ByteArray)) ++ t204) ++ (⟨#[32]⟩ : ByteArray)).size + 5 ≤ 9223372036854775807 then ((deadboltref6_block.f k1 ((rd_T86 l0 x4_1).f4)).bind fun t207 => (if (((((x3_1 ++ t201) ++ (⟨#[32]⟩ : ByteArray)) ++ t204) ++ (⟨#[32]⟩ : ByteArray)) ++ (⟨#[101, 108, 115, 101, 32]⟩ : ByteArray)).size + t207.size ≤ 9223372036854775807 then (if ((((((x3_1 ++ t201) ++ (⟨#[32]⟩ : ByteArray)) ++ t204) ++ (⟨#[32]⟩ : ByteArray)) ++ (⟨#[101, 108, 115, 101, 32]⟩ : ByteArray)) ++ t207).size + 1 ≤ 9223372036854775807 then (deadboltref6_block.l0 k1 l0 (((((((x3_1 ++ t201) ++ (⟨#[32]⟩ : ByteArray)) ++ t204) ++ (⟨#[32]⟩ : ByteArray)) ++ (⟨#[101, 108, 115, 101, 32]⟩ : ByteArray)) ++ t207) ++ (⟨#[32]⟩ : ByteArray)) (wrap64 (x4_1 + 1))) else (none)) else (none))) else (none)) else (deadboltref6_block.l0 k1 l0 ((((x3_1 ++ t201) ++ (⟨#[32]⟩ : ByteArray)) ++ t204) ++ (⟨#[32]⟩ : ByteArray)) (wrap64 (x4_1 + 1)))) else (none)) else (none))) else (if ((rd_T86 l0 x4_1).f0) = 8 then ((deadboltref6_block.f k1 ((rd_T86 l0 x4_1).f3)).bind fun t209 => (if ((x3_1 ++ t201) ++ (⟨#[32]⟩ : ByteArray)).size + t209.size ≤ 9223372036854775807 then (if (((x3_1 ++ t201) ++ (⟨#[32]⟩ : ByteArray)) ++ t209).size + 1 ≤ 9223372036854775807 then (deadboltref6_block.l0 k1 l0 ((((x3_1 ++ t201) ++ (⟨#[32]⟩ : ByteArray)) ++ t209) ++ (⟨#[32]⟩ : ByteArray)) (wrap64 (x4_1 + 1))) else (none)) else (none))) else (if ((x3_1 ++ t201) ++ (⟨#[32]⟩ : ByteArray)).size + ((rd_T86 l0 x4_1).f2).size ≤ 9223372036854775807 then (if (((x3_1 ++ t201) ++ (⟨#[32]⟩ : ByteArray)) ++ ((rd_T86 l0 x4_1).f2)).size + 1 ≤ 9223372036854775807 then (deadboltref6_block.l0 k1 l0 ((((x3_1 ++ t201) ++ (⟨#[32]⟩ : ByteArray)) ++ ((rd_T86 l0 x4_1).f2)) ++ (⟨#[32]⟩ : ByteArray)) (wrap64 (x4_1 + 1))) else (none)) else (none)))) else (none)) else (none)) = some r := H
          have A4 := Aside0.mk A40
          clear A40
          by_cases c5 : x3_1.size + t201.size ≤ 9223372036854775807
          · rw [if_pos c5] at H
            have c5b0 := eq_true c5
            have c5b1 : decide (x3_1.size + t201.size ≤ 9223372036854775807) = true := decide_eq_true c5
            try have c5b2 : (9223372036854775807 < x3_1.size + t201.size) = False := eq_false (Nat.not_lt.2 c5)
            by_cases c6 : (x3_1 ++ t201).size + 1 ≤ 9223372036854775807
            · rw [if_pos c6] at H
              have c6b0 := eq_true c6
              have c6b1 : decide ((x3_1 ++ t201).size + 1 ≤ 9223372036854775807) = true := decide_eq_true c6
              (try (have c6t1 : decide (x3_1.size + t201.size + 1 ≤ 9223372036854775807) = true := by have h_ := c6b1; simp only [ByteArray.size_append] at h_; exact h_))
              try have c6b2 : (9223372036854775807 < (x3_1 ++ t201).size + 1) = False := eq_false (Nat.not_lt.2 c6)
              (try (have c6t2 : (9223372036854775807 < x3_1.size + t201.size + 1) = False := by have h_ := c6b2; simp only [ByteArray.size_append] at h_; exact h_))
              by_cases c7 : ((rd_T86 l0 x4_1).f0) = 7
              · rw [if_pos c7] at H
                have c7b0 : (((rd_T86 l0 x4_1).f0) == 7) = true := beq_iff_eq.mpr c7
                have c7b1 : (((rd_T86 l0 x4_1).f0) != 7) = false := bne_eq_false_iff_eq.mpr c7
                clear c7
                replace H := Option.bind_eq_some_iff.mp H
                obtain ⟨t204, A80, H⟩ := H
                replace H : (if ((x3_1 ++ t201) ++ (⟨#[32]⟩ : ByteArray)).size + t204.size ≤ 9223372036854775807 then (if (((x3_1 ++ t201) ++ (⟨#[32]⟩ : ByteArray)) ++ t204).size + 1 ≤ 9223372036854775807 then (if (((rd_T86 l0 x4_1).f4).length : Int) > 0 then (if ((((x3_1 ++ t201) ++ (⟨#[32]⟩ : ByteArray)) ++ t204) ++ (⟨#[32]⟩ : ByteArray)).size + 5 ≤ 9223372036854775807 then ((deadboltref6_block.f k1 ((rd_T86 l0 x4_1).f4)).bind fun t207 => (if (((((x3_1 ++ t201) ++ (⟨#[32]⟩ : ByteArray)) ++ t204) ++ (⟨#[32]⟩ : ByteArray)) ++ (⟨#[101, 108, 115, 101, 32]⟩ : ByteArray)).size + t207.size ≤ 9223372036854775807 then (if ((((((x3_1 ++ t201) ++ (⟨#[32]⟩ : ByteArray)) ++ t204) ++ (⟨#[32]⟩ : ByteArray)) ++ (⟨#[101, 108, 115, 101, 32]⟩ : ByteArray)) ++ t207).size + 1 ≤ 9223372036854775807 then (deadboltref6_block.l0 k1 l0 (((((((x3_1 ++ t201) ++ (⟨#[32]⟩ : ByteArray)) ++ t204) ++ (⟨#[32]⟩ : ByteArray)) ++ (⟨#[101, 108, 115, 101, 32]⟩ : ByteArray)) ++ t207) ++ (⟨#[32]⟩ : ByteArray)) (wrap64 (x4_1 + 1))) else (none)) else (none))) else (none)) else (deadboltref6_block.l0 k1 l0 ((((x3_1 ++ t201) ++ (⟨#[32]⟩ : ByteArray)) ++ t204) ++ (⟨#[32]⟩ : ByteArray)) (wrap64 (x4_1 + 1)))) else (none)) else (none)) = some r := H
                have A8 := Aside0.mk A80
                clear A80
                by_cases c9 : ((x3_1 ++ t201) ++ (⟨#[32]⟩ : ByteArray)).size + t204.size ≤ 9223372036854775807
                · rw [if_pos c9] at H
                  have c9b0 := eq_true c9
                  have c9b1 : decide (((x3_1 ++ t201) ++ (⟨#[32]⟩ : ByteArray)).size + t204.size ≤ 9223372036854775807) = true := decide_eq_true c9
                  (try (have c9t1 : decide (x3_1.size + t201.size + 1 + t204.size ≤ 9223372036854775807) = true := by have h_ := c9b1; simp only [ByteArray.size_append] at h_; exact h_))
                  try have c9b2 : (9223372036854775807 < ((x3_1 ++ t201) ++ (⟨#[32]⟩ : ByteArray)).size + t204.size) = False := eq_false (Nat.not_lt.2 c9)
                  (try (have c9t2 : (9223372036854775807 < x3_1.size + t201.size + 1 + t204.size) = False := by have h_ := c9b2; simp only [ByteArray.size_append] at h_; exact h_))
                  by_cases c10 : (((x3_1 ++ t201) ++ (⟨#[32]⟩ : ByteArray)) ++ t204).size + 1 ≤ 9223372036854775807
                  · rw [if_pos c10] at H
                    have c10b0 := eq_true c10
                    have c10b1 : decide ((((x3_1 ++ t201) ++ (⟨#[32]⟩ : ByteArray)) ++ t204).size + 1 ≤ 9223372036854775807) = true := decide_eq_true c10
                    (try (have c10t1 : decide (x3_1.size + t201.size + 1 + t204.size + 1 ≤ 9223372036854775807) = true := by have h_ := c10b1; simp only [ByteArray.size_append] at h_; exact h_))
                    try have c10b2 : (9223372036854775807 < (((x3_1 ++ t201) ++ (⟨#[32]⟩ : ByteArray)) ++ t204).size + 1) = False := eq_false (Nat.not_lt.2 c10)
                    (try (have c10t2 : (9223372036854775807 < x3_1.size + t201.size + 1 + t204.size + 1) = False := by have h_ := c10b2; simp only [ByteArray.size_append] at h_; exact h_))
                    by_cases c11 : (((rd_T86 l0 x4_1).f4).length : Int) > 0
                    · rw [if_pos c11] at H
                      have c11b0 : decide (0 < (((rd_T86 l0 x4_1).f4).length : Int)) = true := decide_eq_true c11
                      have c11b1 : decide (0 < ((rd_T86 l0 x4_1).f4).length) = true := decide_eq_true (by omega)
                      clear c11
                      by_cases c12 : ((((x3_1 ++ t201) ++ (⟨#[32]⟩ : ByteArray)) ++ t204) ++ (⟨#[32]⟩ : ByteArray)).size + 5 ≤ 9223372036854775807
                      · rw [if_pos c12] at H
                        have c12b0 := eq_true c12
                        have c12b1 : decide (((((x3_1 ++ t201) ++ (⟨#[32]⟩ : ByteArray)) ++ t204) ++ (⟨#[32]⟩ : ByteArray)).size + 5 ≤ 9223372036854775807) = true := decide_eq_true c12
                        (try (have c12t1 : decide (x3_1.size + t201.size + 1 + t204.size + 1 + 5 ≤ 9223372036854775807) = true := by have h_ := c12b1; simp only [ByteArray.size_append] at h_; exact h_))
                        try have c12b2 : (9223372036854775807 < ((((x3_1 ++ t201) ++ (⟨#[32]⟩ : ByteArray)) ++ t204) ++ (⟨#[32]⟩ : ByteArray)).size + 5) = False := eq_false (Nat.not_lt.2 c12)
                        (try (have c12t2 : (9223372036854775807 < x3_1.size + t201.size + 1 + t204.size + 1 + 5) = False := by have h_ := c12b2; simp only [ByteArray.size_append] at h_; exact h_))
                        replace H := Option.bind_eq_some_iff.mp H
                        obtain ⟨t207, A130, H⟩ := H
                        replace H : (if (((((x3_1 ++ t201) ++ (⟨#[32]⟩ : ByteArray)) ++ t204) ++ (⟨#[32]⟩ : ByteArray)) ++ (⟨#[101, 108, 115, 101, 32]⟩ : ByteArray)).size + t207.size ≤ 9223372036854775807 then (if ((((((x3_1 ++ t201) ++ (⟨#[32]⟩ : ByteArray)) ++ t204) ++ (⟨#[32]⟩ : ByteArray)) ++ (⟨#[101, 108, 115, 101, 32]⟩ : ByteArray)) ++ t207).size + 1 ≤ 9223372036854775807 then (deadboltref6_block.l0 k1 l0 (((((((x3_1 ++ t201) ++ (⟨#[32]⟩ : ByteArray)) ++ t204) ++ (⟨#[32]⟩ : ByteArray)) ++ (⟨#[101, 108, 115, 101, 32]⟩ : ByteArray)) ++ t207) ++ (⟨#[32]⟩ : ByteArray)) (wrap64 (x4_1 + 1))) else (none)) else (none)) = some r := H
                        have A13 := Aside0.mk A130
                        clear A130
                        by_cases c14 : (((((x3_1 ++ t201) ++ (⟨#[32]⟩ : ByteArray)) ++ t204) ++ (⟨#[32]⟩ : ByteArray)) ++ (⟨#[101, 108, 115, 101, 32]⟩ : ByteArray)).size + t207.size ≤ 9223372036854775807
                        · rw [if_pos c14] at H
                          have c14b0 := eq_true c14
                          have c14b1 : decide ((((((x3_1 ++ t201) ++ (⟨#[32]⟩ : ByteArray)) ++ t204) ++ (⟨#[32]⟩ : ByteArray)) ++ (⟨#[101, 108, 115, 101, 32]⟩ : ByteArray)).size + t207.size ≤ 9223372036854775807) = true := decide_eq_true c14
                          (try (have c14t1 : decide (x3_1.size + t201.size + 1 + t204.size + 1 + 5 + t207.size ≤ 9223372036854775807) = true := by have h_ := c14b1; simp only [ByteArray.size_append] at h_; exact h_))
                          try have c14b2 : (9223372036854775807 < (((((x3_1 ++ t201) ++ (⟨#[32]⟩ : ByteArray)) ++ t204) ++ (⟨#[32]⟩ : ByteArray)) ++ (⟨#[101, 108, 115, 101, 32]⟩ : ByteArray)).size + t207.size) = False := eq_false (Nat.not_lt.2 c14)
                          (try (have c14t2 : (9223372036854775807 < x3_1.size + t201.size + 1 + t204.size + 1 + 5 + t207.size) = False := by have h_ := c14b2; simp only [ByteArray.size_append] at h_; exact h_))
                          by_cases c15 : ((((((x3_1 ++ t201) ++ (⟨#[32]⟩ : ByteArray)) ++ t204) ++ (⟨#[32]⟩ : ByteArray)) ++ (⟨#[101, 108, 115, 101, 32]⟩ : ByteArray)) ++ t207).size + 1 ≤ 9223372036854775807
                          · rw [if_pos c15] at H
                            have c15b0 := eq_true c15
                            have c15b1 : decide (((((((x3_1 ++ t201) ++ (⟨#[32]⟩ : ByteArray)) ++ t204) ++ (⟨#[32]⟩ : ByteArray)) ++ (⟨#[101, 108, 115, 101, 32]⟩ : ByteArray)) ++ t207).size + 1 ≤ 9223372036854775807) = true := decide_eq_true c15
                            (try (have c15t1 : decide (x3_1.size + t201.size + 1 + t204.size + 1 + 5 + t207.size + 1 ≤ 9223372036854775807) = true := by have h_ := c15b1; simp only [ByteArray.size_append] at h_; exact h_))
                            try have c15b2 : (9223372036854775807 < ((((((x3_1 ++ t201) ++ (⟨#[32]⟩ : ByteArray)) ++ t204) ++ (⟨#[32]⟩ : ByteArray)) ++ (⟨#[101, 108, 115, 101, 32]⟩ : ByteArray)) ++ t207).size + 1) = False := eq_false (Nat.not_lt.2 c15)
                            (try (have c15t2 : (9223372036854775807 < x3_1.size + t201.size + 1 + t204.size + 1 + 5 + t207.size + 1) = False := by have h_ := c15b2; simp only [ByteArray.size_append] at h_; exact h_))
                            have H' := Aside0.mk H
                            clear H
                            have p200 : 0 ≤ (x4_1 : Int) := of_decide_eq_true (by first | (with_reducible assumption) | assumption)
                            have q200 : x4_1 < (l0.length : Int) := of_decide_eq_true (by first | (with_reducible assumption) | assumption)
                            obtain ⟨ad200, A200_3, c200_3, A200_4, c200_4, e200, hx200_0, hx200_1, hx200_2, hx200_3, hx200_4, hl200_3, hi200_3, hl200_4, hi200_4⟩ := at_T86 HR0.out x4_1 p200 q200
                            cases e200
                            replace hx200_0 := (HB.out.cell (World.block_lt_of_cell? w _ hx200_0)).trans hx200_0
                            replace hx200_1 := (HB.out.cell (World.block_lt_of_cell? w _ hx200_1)).trans hx200_1
                            replace hx200_2 := (HB.out.cell (World.block_lt_of_cell? w _ hx200_2)).trans hx200_2
                            replace hx200_3 := (HB.out.cell (World.block_lt_of_cell? w _ hx200_3)).trans hx200_3
                            replace hx200_4 := (HB.out.cell (World.block_lt_of_cell? w _ hx200_4)).trans hx200_4
                            have HR200_3 := Aside0.mk hi200_3
                            have HC200_3 := Aside0.mk hl200_3
                            clear hi200_3 hl200_3
                            have HR200_4 := Aside0.mk hi200_4
                            have HC200_4 := Aside0.mk hl200_4
                            clear hi200_4 hl200_4
                            replace p200 := eq_true p200
                            replace q200 := eq_true q200
                            go_wp2_with (first | ((with_reducible refine gate_callee (f := 44) rfl ?_); refine goesL_ (some 17) rfl rfl Tryd.func44 (by kernel_rfl) rfl #[.int .i64 ((rd_T86 l0 x4_1).f0)] rfl (by (try simp only [List.map_toArray, List.map_cons, List.map_nil]); first | done | rfl | (simp only [List.length_drop, List.length_take]; rfl)) ?_; (with_reducible refine (deadboltref6_Verb.calls ((rd_T86 l0 x4_1).f0) t201 _ A4.out).mono ?_); rintro e w16 ⟨rfl, hb⟩; refine ⟨_, rfl, ?_⟩; have n0_ := Aside0.mk (below_step (by repeat (first | (with_reducible first | exact HB.out | apply below_alloc | apply pw_below_drewN | apply below_drew1) | exact HB.out)) hb); clear HB; have HB := n0_; clear n0_; (try clear hb); (try clear hb2); (try clear hk); (try clear hi); have p202 : 0 ≤ (x4_1 : Int) := of_decide_eq_true (by first | (with_reducible assumption) | assumption); have q202 : x4_1 < (l0.length : Int) := of_decide_eq_true (by first | (with_reducible assumption) | assumption); obtain ⟨ad202, A202_3, c202_3, A202_4, c202_4, e202, hx202_0, hx202_1, hx202_2, hx202_3, hx202_4, hl202_3, hi202_3, hl202_4, hi202_4⟩ := at_T86 HR0.out x4_1 p202 q202; obtain rfl : ad200 = ad202 := (by injection e202); replace hx202_0 := (HB.out.cell (World.block_lt_of_cell? w _ hx202_0)).trans hx202_0; replace hx202_1 := (HB.out.cell (World.block_lt_of_cell? w _ hx202_1)).trans hx202_1; replace hx202_2 := (HB.out.cell (World.block_lt_of_cell? w _ hx202_2)).trans hx202_2; replace hx202_3 := (HB.out.cell (World.block_lt_of_cell? w _ hx202_3)).trans hx202_3; replace hx202_4 := (HB.out.cell (World.block_lt_of_cell? w _ hx202_4)).trans hx202_4; have HR202_3 := Aside0.mk hi202_3; have HC202_3 := Aside0.mk hl202_3; clear hi202_3 hl202_3; have HR202_4 := Aside0.mk hi202_4; have HC202_4 := Aside0.mk hl202_4; clear hi202_4 hl202_4; replace p202 := eq_true p202; replace q202 := eq_true q202; have p203 : 0 ≤ (x4_1 : Int) := of_decide_eq_true (by first | (with_reducible assumption) | assumption); have q203 : x4_1 < (l0.length : Int) := of_decide_eq_true (by first | (with_reducible assumption) | assumption); obtain ⟨ad203, A203_3, c203_3, A203_4, c203_4, e203, hx203_0, hx203_1, hx203_2, hx203_3, hx203_4, hl203_3, hi203_3, hl203_4, hi203_4⟩ := at_T86 HR0.out x4_1 p203 q203; obtain rfl : ad200 = ad203 := (by injection e203); replace hx203_0 := (HB.out.cell (World.block_lt_of_cell? w _ hx203_0)).trans hx203_0; replace hx203_1 := (HB.out.cell (World.block_lt_of_cell? w _ hx203_1)).trans hx203_1; replace hx203_2 := (HB.out.cell (World.block_lt_of_cell? w _ hx203_2)).trans hx203_2; replace hx203_3 := (HB.out.cell (World.block_lt_of_cell? w _ hx203_3)).trans hx203_3; replace hx203_4 := (HB.out.cell (World.block_lt_of_cell? w _ hx203_4)).trans hx203_4; have HR203_3 := Aside0.mk hi203_3; have HC203_3 := Aside0.mk hl203_3; clear hi203_3 hl203_3; have HR203_4 := Aside0.mk hi203_4; have HC203_4 := Aside0.mk hl203_4; clear hi203_4 hl203_4; replace p203 := eq_true p203; replace q203 := eq_true q203; have ea_ := Option.some.inj (hx202_3.symm.trans hx203_3); injection ea_ with ea_ en_ ec_; subst ea_; subst ec_; clear en_; have ea_ := Option.some.inj (hx202_4.symm.trans hx203_4); injection ea_ with ea_ en_ ec_; subst ea_; subst ec_; clear en_) | ((with_reducible refine gate_callee (f := 50) rfl ?_); refine goesL_ (some 41) rfl rfl Tryd.func50 (by kernel_rfl) rfl #[.slice A202_3 ((rd_T86 l0 x4_1).f3).length c202_3] rfl (by (try simp only [List.map_toArray, List.map_cons, List.map_nil]); first | done | rfl | (simp only [List.length_drop, List.length_take]; rfl)) ?_; (with_reducible refine (ih k1 (by have := HK1.out; omega) _ _ ((rd_T86 l0 x4_1).f3) t204 _ ?side1 ?side2 A8.out).mono ?_); (case side1 => repeat (first | exact (Kd.C_below HR203_3.out HB.out) | (with_reducible refine Kd.C_alloc ?_ _) | (with_reducible refine Kd.C_drewN ?_ _) | (with_reducible refine Kd.C_drew ?_))); (case side2 => exact HC203_3.out); rintro e w17 ⟨rfl, hb⟩; refine ⟨_, rfl, ?_⟩; have n0_ := Aside0.mk (below_step (by repeat (first | (with_reducible first | exact HB.out | apply below_alloc | apply pw_below_drewN | apply below_drew1) | exact HB.out)) hb); clear HB; have HB := n0_; clear n0_; (try clear hb); (try clear hb2); (try clear hk); (try clear hi); have p205 : 0 ≤ (x4_1 : Int) := of_decide_eq_true (by first | (with_reducible assumption) | assumption); have q205 : x4_1 < (l0.length : Int) := of_decide_eq_true (by first | (with_reducible assumption) | assumption); obtain ⟨ad205, A205_3, c205_3, A205_4, c205_4, e205, hx205_0, hx205_1, hx205_2, hx205_3, hx205_4, hl205_3, hi205_3, hl205_4, hi205_4⟩ := at_T86 HR0.out x4_1 p205 q205; obtain rfl : ad200 = ad205 := (by injection e205); replace hx205_0 := (HB.out.cell (World.block_lt_of_cell? w _ hx205_0)).trans hx205_0; replace hx205_1 := (HB.out.cell (World.block_lt_of_cell? w _ hx205_1)).trans hx205_1; replace hx205_2 := (HB.out.cell (World.block_lt_of_cell? w _ hx205_2)).trans hx205_2; replace hx205_3 := (HB.out.cell (World.block_lt_of_cell? w _ hx205_3)).trans hx205_3; replace hx205_4 := (HB.out.cell (World.block_lt_of_cell? w _ hx205_4)).trans hx205_4; have HR205_3 := Aside0.mk hi205_3; have HC205_3 := Aside0.mk hl205_3; clear hi205_3 hl205_3; have HR205_4 := Aside0.mk hi205_4; have HC205_4 := Aside0.mk hl205_4; clear hi205_4 hl205_4; replace p205 := eq_true p205; replace q205 := eq_true q205; have p206 : 0 ≤ (x4_1 : Int) := of_decide_eq_true (by first | (with_reducible assumption) | assumption); have q206 : x4_1 < (l0.length : Int) := of_decide_eq_true (by first | (with_reducible assumption) | assumption); obtain ⟨ad206, A206_3, c206_3, A206_4, c206_4, e206, hx206_0, hx206_1, hx206_2, hx206_3, hx206_4, hl206_3, hi206_3, hl206_4, hi206_4⟩ := at_T86 HR0.out x4_1 p206 q206; obtain rfl : ad200 = ad206 := (by injection e206); replace hx206_0 := (HB.out.cell (World.block_lt_of_cell? w _ hx206_0)).trans hx206_0; replace hx206_1 := (HB.out.cell (World.block_lt_of_cell? w _ hx206_1)).trans hx206_1; replace hx206_2 := (HB.out.cell (World.block_lt_of_cell? w _ hx206_2)).trans hx206_2; replace hx206_3 := (HB.out.cell (World.block_lt_of_cell? w _ hx206_3)).trans hx206_3; replace hx206_4 := (HB.out.cell (World.block_lt_of_cell? w _ hx206_4)).trans hx206_4; have HR206_3 := Aside0.mk hi206_3; have HC206_3 := Aside0.mk hl206_3; clear hi206_3 hl206_3; have HR206_4 := Aside0.mk hi206_4; have HC206_4 := Aside0.mk hl206_4; clear hi206_4 hl206_4; replace p206 := eq_true p206; replace q206 := eq_true q206; have ea_ := Option.some.inj (hx205_3.symm.trans hx206_3); injection ea_ with ea_ en_ ec_; subst ea_; subst ec_; clear en_; have ea_ := Option.some.inj (hx205_4.symm.trans hx206_4); injection ea_ with ea_ en_ ec_; subst ea_; subst ec_; clear en_) | ((with_reducible refine gate_callee (f := 50) rfl ?_); refine goesL_ (some 58) rfl rfl Tryd.func50 (by kernel_rfl) rfl #[.slice A205_4 ((rd_T86 l0 x4_1).f4).length c205_4] rfl (by (try simp only [List.map_toArray, List.map_cons, List.map_nil]); first | done | rfl | (simp only [List.length_drop, List.length_take]; rfl)) ?_; (with_reducible refine (ih k1 (by have := HK1.out; omega) _ _ ((rd_T86 l0 x4_1).f4) t207 _ ?side1 ?side2 A13.out).mono ?_); (case side1 => repeat (first | exact (Kd.C_below HR206_4.out HB.out) | (with_reducible refine Kd.C_alloc ?_ _) | (with_reducible refine Kd.C_drewN ?_ _) | (with_reducible refine Kd.C_drew ?_))); (case side2 => exact HC206_4.out); rintro e w18 ⟨rfl, hb⟩; refine ⟨_, rfl, ?_⟩; have n0_ := Aside0.mk (below_step (by repeat (first | (with_reducible first | exact HB.out | apply below_alloc | apply pw_below_drewN | apply below_drew1) | exact HB.out)) hb); clear HB; have HB := n0_; clear n0_; (try clear hb); (try clear hb2); (try clear hk); (try clear hi)))
                            go_roundg k1
                            case measure => have := HK1.out; omega
                            case rel => exact ⟨(((((((x3_1 ++ t201) ++ (⟨#[32]⟩ : ByteArray)) ++ t204) ++ (⟨#[32]⟩ : ByteArray)) ++ (⟨#[101, 108, 115, 101, 32]⟩ : ByteArray)) ++ t207) ++ (⟨#[32]⟩ : ByteArray)), (wrap64 (x4_1 + 1)), (by first | rfl | (simp; done) | (simp [*]; done)), (by first | rfl | (simp; done) | (simp [*]; done)), H', ⟨by have := HK1.out; omega⟩, ⟨by repeat (first | (with_reducible first | exact HB.out | apply below_alloc | apply pw_below_drewN | apply below_drew1) | exact HB.out)⟩⟩
                          · rw [if_neg c15] at H
                            exact absurd H (by simp)
                        · rw [if_neg c14] at H
                          exact absurd H (by simp)
                      · rw [if_neg c12] at H
                        exact absurd H (by simp)
                    · rw [if_neg c11] at H
                      have c11b0 : decide (0 < (((rd_T86 l0 x4_1).f4).length : Int)) = false := decide_eq_false c11
                      have c11b1 : decide (0 < ((rd_T86 l0 x4_1).f4).length) = false := decide_eq_false (by omega)
                      clear c11
                      have H' := Aside0.mk H
                      clear H
                      have p200 : 0 ≤ (x4_1 : Int) := of_decide_eq_true (by first | (with_reducible assumption) | assumption)
                      have q200 : x4_1 < (l0.length : Int) := of_decide_eq_true (by first | (with_reducible assumption) | assumption)
                      obtain ⟨ad200, A200_3, c200_3, A200_4, c200_4, e200, hx200_0, hx200_1, hx200_2, hx200_3, hx200_4, hl200_3, hi200_3, hl200_4, hi200_4⟩ := at_T86 HR0.out x4_1 p200 q200
                      cases e200
                      replace hx200_0 := (HB.out.cell (World.block_lt_of_cell? w _ hx200_0)).trans hx200_0
                      replace hx200_1 := (HB.out.cell (World.block_lt_of_cell? w _ hx200_1)).trans hx200_1
                      replace hx200_2 := (HB.out.cell (World.block_lt_of_cell? w _ hx200_2)).trans hx200_2
                      replace hx200_3 := (HB.out.cell (World.block_lt_of_cell? w _ hx200_3)).trans hx200_3
                      replace hx200_4 := (HB.out.cell (World.block_lt_of_cell? w _ hx200_4)).trans hx200_4
                      have HR200_3 := Aside0.mk hi200_3
                      have HC200_3 := Aside0.mk hl200_3
                      clear hi200_3 hl200_3
                      have HR200_4 := Aside0.mk hi200_4
                      have HC200_4 := Aside0.mk hl200_4
                      clear hi200_4 hl200_4
                      replace p200 := eq_true p200
                      replace q200 := eq_true q200
                      go_wp2_with (first | ((with_reducible refine gate_callee (f := 44) rfl ?_); refine goesL_ (some 17) rfl rfl Tryd.func44 (by kernel_rfl) rfl #[.int .i64 ((rd_T86 l0 x4_1).f0)] rfl (by (try simp only [List.map_toArray, List.map_cons, List.map_nil]); first | done | rfl | (simp only [List.length_drop, List.length_take]; rfl)) ?_; (with_reducible refine (deadboltref6_Verb.calls ((rd_T86 l0 x4_1).f0) t201 _ A4.out).mono ?_); rintro e w19 ⟨rfl, hb⟩; refine ⟨_, rfl, ?_⟩; have n0_ := Aside0.mk (below_step (by repeat (first | (with_reducible first | exact HB.out | apply below_alloc | apply pw_below_drewN | apply below_drew1) | exact HB.out)) hb); clear HB; have HB := n0_; clear n0_; (try clear hb); (try clear hb2); (try clear hk); (try clear hi); have p202 : 0 ≤ (x4_1 : Int) := of_decide_eq_true (by first | (with_reducible assumption) | assumption); have q202 : x4_1 < (l0.length : Int) := of_decide_eq_true (by first | (with_reducible assumption) | assumption); obtain ⟨ad202, A202_3, c202_3, A202_4, c202_4, e202, hx202_0, hx202_1, hx202_2, hx202_3, hx202_4, hl202_3, hi202_3, hl202_4, hi202_4⟩ := at_T86 HR0.out x4_1 p202 q202; obtain rfl : ad200 = ad202 := (by injection e202); replace hx202_0 := (HB.out.cell (World.block_lt_of_cell? w _ hx202_0)).trans hx202_0; replace hx202_1 := (HB.out.cell (World.block_lt_of_cell? w _ hx202_1)).trans hx202_1; replace hx202_2 := (HB.out.cell (World.block_lt_of_cell? w _ hx202_2)).trans hx202_2; replace hx202_3 := (HB.out.cell (World.block_lt_of_cell? w _ hx202_3)).trans hx202_3; replace hx202_4 := (HB.out.cell (World.block_lt_of_cell? w _ hx202_4)).trans hx202_4; have HR202_3 := Aside0.mk hi202_3; have HC202_3 := Aside0.mk hl202_3; clear hi202_3 hl202_3; have HR202_4 := Aside0.mk hi202_4; have HC202_4 := Aside0.mk hl202_4; clear hi202_4 hl202_4; replace p202 := eq_true p202; replace q202 := eq_true q202; have p203 : 0 ≤ (x4_1 : Int) := of_decide_eq_true (by first | (with_reducible assumption) | assumption); have q203 : x4_1 < (l0.length : Int) := of_decide_eq_true (by first | (with_reducible assumption) | assumption); obtain ⟨ad203, A203_3, c203_3, A203_4, c203_4, e203, hx203_0, hx203_1, hx203_2, hx203_3, hx203_4, hl203_3, hi203_3, hl203_4, hi203_4⟩ := at_T86 HR0.out x4_1 p203 q203; obtain rfl : ad200 = ad203 := (by injection e203); replace hx203_0 := (HB.out.cell (World.block_lt_of_cell? w _ hx203_0)).trans hx203_0; replace hx203_1 := (HB.out.cell (World.block_lt_of_cell? w _ hx203_1)).trans hx203_1; replace hx203_2 := (HB.out.cell (World.block_lt_of_cell? w _ hx203_2)).trans hx203_2; replace hx203_3 := (HB.out.cell (World.block_lt_of_cell? w _ hx203_3)).trans hx203_3; replace hx203_4 := (HB.out.cell (World.block_lt_of_cell? w _ hx203_4)).trans hx203_4; have HR203_3 := Aside0.mk hi203_3; have HC203_3 := Aside0.mk hl203_3; clear hi203_3 hl203_3; have HR203_4 := Aside0.mk hi203_4; have HC203_4 := Aside0.mk hl203_4; clear hi203_4 hl203_4; replace p203 := eq_true p203; replace q203 := eq_true q203; have ea_ := Option.some.inj (hx202_3.symm.trans hx203_3); injection ea_ with ea_ en_ ec_; subst ea_; subst ec_; clear en_; have ea_ := Option.some.inj (hx202_4.symm.trans hx203_4); injection ea_ with ea_ en_ ec_; subst ea_; subst ec_; clear en_) | ((with_reducible refine gate_callee (f := 50) rfl ?_); refine goesL_ (some 41) rfl rfl Tryd.func50 (by kernel_rfl) rfl #[.slice A202_3 ((rd_T86 l0 x4_1).f3).length c202_3] rfl (by (try simp only [List.map_toArray, List.map_cons, List.map_nil]); first | done | rfl | (simp only [List.length_drop, List.length_take]; rfl)) ?_; (with_reducible refine (ih k1 (by have := HK1.out; omega) _ _ ((rd_T86 l0 x4_1).f3) t204 _ ?side1 ?side2 A8.out).mono ?_); (case side1 => repeat (first | exact (Kd.C_below HR203_3.out HB.out) | (with_reducible refine Kd.C_alloc ?_ _) | (with_reducible refine Kd.C_drewN ?_ _) | (with_reducible refine Kd.C_drew ?_))); (case side2 => exact HC203_3.out); rintro e w20 ⟨rfl, hb⟩; refine ⟨_, rfl, ?_⟩; have n0_ := Aside0.mk (below_step (by repeat (first | (with_reducible first | exact HB.out | apply below_alloc | apply pw_below_drewN | apply below_drew1) | exact HB.out)) hb); clear HB; have HB := n0_; clear n0_; (try clear hb); (try clear hb2); (try clear hk); (try clear hi); have p205 : 0 ≤ (x4_1 : Int) := of_decide_eq_true (by first | (with_reducible assumption) | assumption); have q205 : x4_1 < (l0.length : Int) := of_decide_eq_true (by first | (with_reducible assumption) | assumption); obtain ⟨ad205, A205_3, c205_3, A205_4, c205_4, e205, hx205_0, hx205_1, hx205_2, hx205_3, hx205_4, hl205_3, hi205_3, hl205_4, hi205_4⟩ := at_T86 HR0.out x4_1 p205 q205; obtain rfl : ad200 = ad205 := (by injection e205); replace hx205_0 := (HB.out.cell (World.block_lt_of_cell? w _ hx205_0)).trans hx205_0; replace hx205_1 := (HB.out.cell (World.block_lt_of_cell? w _ hx205_1)).trans hx205_1; replace hx205_2 := (HB.out.cell (World.block_lt_of_cell? w _ hx205_2)).trans hx205_2; replace hx205_3 := (HB.out.cell (World.block_lt_of_cell? w _ hx205_3)).trans hx205_3; replace hx205_4 := (HB.out.cell (World.block_lt_of_cell? w _ hx205_4)).trans hx205_4; have HR205_3 := Aside0.mk hi205_3; have HC205_3 := Aside0.mk hl205_3; clear hi205_3 hl205_3; have HR205_4 := Aside0.mk hi205_4; have HC205_4 := Aside0.mk hl205_4; clear hi205_4 hl205_4; replace p205 := eq_true p205; replace q205 := eq_true q205))
                      go_roundg k1
                      case measure => have := HK1.out; omega
                      case rel => exact ⟨((((x3_1 ++ t201) ++ (⟨#[32]⟩ : ByteArray)) ++ t204) ++ (⟨#[32]⟩ : ByteArray)), (wrap64 (x4_1 + 1)), (by first | rfl | (simp; done) | (simp [*]; done)), (by first | rfl | (simp; done) | (simp [*]; done)), H', ⟨by have := HK1.out; omega⟩, ⟨by repeat (first | (with_reducible first | exact HB.out | apply below_alloc | apply pw_below_drewN | apply below_drew1) | exact HB.out)⟩⟩
                  · rw [if_neg c10] at H
                    exact absurd H (by simp)
                · rw [if_neg c9] at H
                  exact absurd H (by simp)
              · rw [if_neg c7] at H
                have c7b0 : (((rd_T86 l0 x4_1).f0) == 7) = false := beq_eq_false_iff_ne.mpr c7
                have c7b1 : (((rd_T86 l0 x4_1).f0) != 7) = true := bne_iff_ne.mpr c7
                by_cases c21 : ((rd_T86 l0 x4_1).f0) = 8
                · rw [if_pos c21] at H
                  have c21b0 : (((rd_T86 l0 x4_1).f0) == 8) = true := beq_iff_eq.mpr c21
                  have c21b1 : (((rd_T86 l0 x4_1).f0) != 8) = false := bne_eq_false_iff_eq.mpr c21
                  clear c21
                  replace H := Option.bind_eq_some_iff.mp H
                  obtain ⟨t209, A220, H⟩ := H
                  replace H : (if ((x3_1 ++ t201) ++ (⟨#[32]⟩ : ByteArray)).size + t209.size ≤ 9223372036854775807 then (if (((x3_1 ++ t201) ++ (⟨#[32]⟩ : ByteArray)) ++ t209).size + 1 ≤ 9223372036854775807 then (deadboltref6_block.l0 k1 l0 ((((x3_1 ++ t201) ++ (⟨#[32]⟩ : ByteArray)) ++ t209) ++ (⟨#[32]⟩ : ByteArray)) (wrap64 (x4_1 + 1))) else (none)) else (none)) = some r := H
                  have A22 := Aside0.mk A220
                  clear A220
                  by_cases c23 : ((x3_1 ++ t201) ++ (⟨#[32]⟩ : ByteArray)).size + t209.size ≤ 9223372036854775807
                  · rw [if_pos c23] at H
                    have c23b0 := eq_true c23
                    have c23b1 : decide (((x3_1 ++ t201) ++ (⟨#[32]⟩ : ByteArray)).size + t209.size ≤ 9223372036854775807) = true := decide_eq_true c23
                    (try (have c23t1 : decide (x3_1.size + t201.size + 1 + t209.size ≤ 9223372036854775807) = true := by have h_ := c23b1; simp only [ByteArray.size_append] at h_; exact h_))
                    try have c23b2 : (9223372036854775807 < ((x3_1 ++ t201) ++ (⟨#[32]⟩ : ByteArray)).size + t209.size) = False := eq_false (Nat.not_lt.2 c23)
                    (try (have c23t2 : (9223372036854775807 < x3_1.size + t201.size + 1 + t209.size) = False := by have h_ := c23b2; simp only [ByteArray.size_append] at h_; exact h_))
                    by_cases c24 : (((x3_1 ++ t201) ++ (⟨#[32]⟩ : ByteArray)) ++ t209).size + 1 ≤ 9223372036854775807
                    · rw [if_pos c24] at H
                      have c24b0 := eq_true c24
                      have c24b1 : decide ((((x3_1 ++ t201) ++ (⟨#[32]⟩ : ByteArray)) ++ t209).size + 1 ≤ 9223372036854775807) = true := decide_eq_true c24
                      (try (have c24t1 : decide (x3_1.size + t201.size + 1 + t209.size + 1 ≤ 9223372036854775807) = true := by have h_ := c24b1; simp only [ByteArray.size_append] at h_; exact h_))
                      try have c24b2 : (9223372036854775807 < (((x3_1 ++ t201) ++ (⟨#[32]⟩ : ByteArray)) ++ t209).size + 1) = False := eq_false (Nat.not_lt.2 c24)
                      (try (have c24t2 : (9223372036854775807 < x3_1.size + t201.size + 1 + t209.size + 1) = False := by have h_ := c24b2; simp only [ByteArray.size_append] at h_; exact h_))
                      have H' := Aside0.mk H
                      clear H
                      have p200 : 0 ≤ (x4_1 : Int) := of_decide_eq_true (by first | (with_reducible assumption) | assumption)
                      have q200 : x4_1 < (l0.length : Int) := of_decide_eq_true (by first | (with_reducible assumption) | assumption)
                      obtain ⟨ad200, A200_3, c200_3, A200_4, c200_4, e200, hx200_0, hx200_1, hx200_2, hx200_3, hx200_4, hl200_3, hi200_3, hl200_4, hi200_4⟩ := at_T86 HR0.out x4_1 p200 q200
                      cases e200
                      replace hx200_0 := (HB.out.cell (World.block_lt_of_cell? w _ hx200_0)).trans hx200_0
                      replace hx200_1 := (HB.out.cell (World.block_lt_of_cell? w _ hx200_1)).trans hx200_1
                      replace hx200_2 := (HB.out.cell (World.block_lt_of_cell? w _ hx200_2)).trans hx200_2
                      replace hx200_3 := (HB.out.cell (World.block_lt_of_cell? w _ hx200_3)).trans hx200_3
                      replace hx200_4 := (HB.out.cell (World.block_lt_of_cell? w _ hx200_4)).trans hx200_4
                      have HR200_3 := Aside0.mk hi200_3
                      have HC200_3 := Aside0.mk hl200_3
                      clear hi200_3 hl200_3
                      have HR200_4 := Aside0.mk hi200_4
                      have HC200_4 := Aside0.mk hl200_4
                      clear hi200_4 hl200_4
                      replace p200 := eq_true p200
                      replace q200 := eq_true q200
                      go_wp2_with (first | ((with_reducible refine gate_callee (f := 44) rfl ?_); refine goesL_ (some 17) rfl rfl Tryd.func44 (by kernel_rfl) rfl #[.int .i64 ((rd_T86 l0 x4_1).f0)] rfl (by (try simp only [List.map_toArray, List.map_cons, List.map_nil]); first | done | rfl | (simp only [List.length_drop, List.length_take]; rfl)) ?_; (with_reducible refine (deadboltref6_Verb.calls ((rd_T86 l0 x4_1).f0) t201 _ A4.out).mono ?_); rintro e w25 ⟨rfl, hb⟩; refine ⟨_, rfl, ?_⟩; have n0_ := Aside0.mk (below_step (by repeat (first | (with_reducible first | exact HB.out | apply below_alloc | apply pw_below_drewN | apply below_drew1) | exact HB.out)) hb); clear HB; have HB := n0_; clear n0_; (try clear hb); (try clear hb2); (try clear hk); (try clear hi); have p202 : 0 ≤ (x4_1 : Int) := of_decide_eq_true (by first | (with_reducible assumption) | assumption); have q202 : x4_1 < (l0.length : Int) := of_decide_eq_true (by first | (with_reducible assumption) | assumption); obtain ⟨ad202, A202_3, c202_3, A202_4, c202_4, e202, hx202_0, hx202_1, hx202_2, hx202_3, hx202_4, hl202_3, hi202_3, hl202_4, hi202_4⟩ := at_T86 HR0.out x4_1 p202 q202; obtain rfl : ad200 = ad202 := (by injection e202); replace hx202_0 := (HB.out.cell (World.block_lt_of_cell? w _ hx202_0)).trans hx202_0; replace hx202_1 := (HB.out.cell (World.block_lt_of_cell? w _ hx202_1)).trans hx202_1; replace hx202_2 := (HB.out.cell (World.block_lt_of_cell? w _ hx202_2)).trans hx202_2; replace hx202_3 := (HB.out.cell (World.block_lt_of_cell? w _ hx202_3)).trans hx202_3; replace hx202_4 := (HB.out.cell (World.block_lt_of_cell? w _ hx202_4)).trans hx202_4; have HR202_3 := Aside0.mk hi202_3; have HC202_3 := Aside0.mk hl202_3; clear hi202_3 hl202_3; have HR202_4 := Aside0.mk hi202_4; have HC202_4 := Aside0.mk hl202_4; clear hi202_4 hl202_4; replace p202 := eq_true p202; replace q202 := eq_true q202; have p208 : 0 ≤ (x4_1 : Int) := of_decide_eq_true (by first | (with_reducible assumption) | assumption); have q208 : x4_1 < (l0.length : Int) := of_decide_eq_true (by first | (with_reducible assumption) | assumption); obtain ⟨ad208, A208_3, c208_3, A208_4, c208_4, e208, hx208_0, hx208_1, hx208_2, hx208_3, hx208_4, hl208_3, hi208_3, hl208_4, hi208_4⟩ := at_T86 HR0.out x4_1 p208 q208; obtain rfl : ad200 = ad208 := (by injection e208); replace hx208_0 := (HB.out.cell (World.block_lt_of_cell? w _ hx208_0)).trans hx208_0; replace hx208_1 := (HB.out.cell (World.block_lt_of_cell? w _ hx208_1)).trans hx208_1; replace hx208_2 := (HB.out.cell (World.block_lt_of_cell? w _ hx208_2)).trans hx208_2; replace hx208_3 := (HB.out.cell (World.block_lt_of_cell? w _ hx208_3)).trans hx208_3; replace hx208_4 := (HB.out.cell (World.block_lt_of_cell? w _ hx208_4)).trans hx208_4; have HR208_3 := Aside0.mk hi208_3; have HC208_3 := Aside0.mk hl208_3; clear hi208_3 hl208_3; have HR208_4 := Aside0.mk hi208_4; have HC208_4 := Aside0.mk hl208_4; clear hi208_4 hl208_4; replace p208 := eq_true p208; replace q208 := eq_true q208; have ea_ := Option.some.inj (hx202_3.symm.trans hx208_3); injection ea_ with ea_ en_ ec_; subst ea_; subst ec_; clear en_; have ea_ := Option.some.inj (hx202_4.symm.trans hx208_4); injection ea_ with ea_ en_ ec_; subst ea_; subst ec_; clear en_) | ((with_reducible refine gate_callee (f := 50) rfl ?_); refine goesL_ (some 69) rfl rfl Tryd.func50 (by kernel_rfl) rfl #[.slice A202_3 ((rd_T86 l0 x4_1).f3).length c202_3] rfl (by (try simp only [List.map_toArray, List.map_cons, List.map_nil]); first | done | rfl | (simp only [List.length_drop, List.length_take]; rfl)) ?_; (with_reducible refine (ih k1 (by have := HK1.out; omega) _ _ ((rd_T86 l0 x4_1).f3) t209 _ ?side1 ?side2 A22.out).mono ?_); (case side1 => repeat (first | exact (Kd.C_below HR208_3.out HB.out) | (with_reducible refine Kd.C_alloc ?_ _) | (with_reducible refine Kd.C_drewN ?_ _) | (with_reducible refine Kd.C_drew ?_))); (case side2 => exact HC208_3.out); rintro e w26 ⟨rfl, hb⟩; refine ⟨_, rfl, ?_⟩; have n0_ := Aside0.mk (below_step (by repeat (first | (with_reducible first | exact HB.out | apply below_alloc | apply pw_below_drewN | apply below_drew1) | exact HB.out)) hb); clear HB; have HB := n0_; clear n0_; (try clear hb); (try clear hb2); (try clear hk); (try clear hi)))
                      go_roundg k1
                      case measure => have := HK1.out; omega
                      case rel => exact ⟨((((x3_1 ++ t201) ++ (⟨#[32]⟩ : ByteArray)) ++ t209) ++ (⟨#[32]⟩ : ByteArray)), (wrap64 (x4_1 + 1)), (by first | rfl | (simp; done) | (simp [*]; done)), (by first | rfl | (simp; done) | (simp [*]; done)), H', ⟨by have := HK1.out; omega⟩, ⟨by repeat (first | (with_reducible first | exact HB.out | apply below_alloc | apply pw_below_drewN | apply below_drew1) | exact HB.out)⟩⟩
                    · rw [if_neg c24] at H
                      exact absurd H (by simp)
                  · rw [if_neg c23] at H
                    exact absurd H (by simp)
                · rw [if_neg c21] at H
                  have c21b0 : (((rd_T86 l0 x4_1).f0) == 8) = false := beq_eq_false_iff_ne.mpr c21
                  have c21b1 : (((rd_T86 l0 x4_1).f0) != 8) = true := bne_iff_ne.mpr c21
                  by_cases c27 : ((x3_1 ++ t201) ++ (⟨#[32]⟩ : ByteArray)).size + ((rd_T86 l0 x4_1).f2).size ≤ 9223372036854775807
                  · rw [if_pos c27] at H
                    have c27b0 := eq_true c27
                    have c27b1 : decide (((x3_1 ++ t201) ++ (⟨#[32]⟩ : ByteArray)).size + ((rd_T86 l0 x4_1).f2).size ≤ 9223372036854775807) = true := decide_eq_true c27
                    (try (have c27t1 : decide (x3_1.size + t201.size + 1 + ((rd_T86 l0 x4_1).f2).size ≤ 9223372036854775807) = true := by have h_ := c27b1; simp only [ByteArray.size_append] at h_; exact h_))
                    try have c27b2 : (9223372036854775807 < ((x3_1 ++ t201) ++ (⟨#[32]⟩ : ByteArray)).size + ((rd_T86 l0 x4_1).f2).size) = False := eq_false (Nat.not_lt.2 c27)
                    (try (have c27t2 : (9223372036854775807 < x3_1.size + t201.size + 1 + ((rd_T86 l0 x4_1).f2).size) = False := by have h_ := c27b2; simp only [ByteArray.size_append] at h_; exact h_))
                    by_cases c28 : (((x3_1 ++ t201) ++ (⟨#[32]⟩ : ByteArray)) ++ ((rd_T86 l0 x4_1).f2)).size + 1 ≤ 9223372036854775807
                    · rw [if_pos c28] at H
                      have c28b0 := eq_true c28
                      have c28b1 : decide ((((x3_1 ++ t201) ++ (⟨#[32]⟩ : ByteArray)) ++ ((rd_T86 l0 x4_1).f2)).size + 1 ≤ 9223372036854775807) = true := decide_eq_true c28
                      (try (have c28t1 : decide (x3_1.size + t201.size + 1 + ((rd_T86 l0 x4_1).f2).size + 1 ≤ 9223372036854775807) = true := by have h_ := c28b1; simp only [ByteArray.size_append] at h_; exact h_))
                      try have c28b2 : (9223372036854775807 < (((x3_1 ++ t201) ++ (⟨#[32]⟩ : ByteArray)) ++ ((rd_T86 l0 x4_1).f2)).size + 1) = False := eq_false (Nat.not_lt.2 c28)
                      (try (have c28t2 : (9223372036854775807 < x3_1.size + t201.size + 1 + ((rd_T86 l0 x4_1).f2).size + 1) = False := by have h_ := c28b2; simp only [ByteArray.size_append] at h_; exact h_))
                      have H' := Aside0.mk H
                      clear H
                      have p200 : 0 ≤ (x4_1 : Int) := of_decide_eq_true (by first | (with_reducible assumption) | assumption)
                      have q200 : x4_1 < (l0.length : Int) := of_decide_eq_true (by first | (with_reducible assumption) | assumption)
                      obtain ⟨ad200, A200_3, c200_3, A200_4, c200_4, e200, hx200_0, hx200_1, hx200_2, hx200_3, hx200_4, hl200_3, hi200_3, hl200_4, hi200_4⟩ := at_T86 HR0.out x4_1 p200 q200
                      cases e200
                      replace hx200_0 := (HB.out.cell (World.block_lt_of_cell? w _ hx200_0)).trans hx200_0
                      replace hx200_1 := (HB.out.cell (World.block_lt_of_cell? w _ hx200_1)).trans hx200_1
                      replace hx200_2 := (HB.out.cell (World.block_lt_of_cell? w _ hx200_2)).trans hx200_2
                      replace hx200_3 := (HB.out.cell (World.block_lt_of_cell? w _ hx200_3)).trans hx200_3
                      replace hx200_4 := (HB.out.cell (World.block_lt_of_cell? w _ hx200_4)).trans hx200_4
                      have HR200_3 := Aside0.mk hi200_3
                      have HC200_3 := Aside0.mk hl200_3
                      clear hi200_3 hl200_3
                      have HR200_4 := Aside0.mk hi200_4
                      have HC200_4 := Aside0.mk hl200_4
                      clear hi200_4 hl200_4
                      replace p200 := eq_true p200
                      replace q200 := eq_true q200
                      go_wp2_with (first | ((with_reducible refine gate_callee (f := 44) rfl ?_); refine goesL_ (some 17) rfl rfl Tryd.func44 (by kernel_rfl) rfl #[.int .i64 ((rd_T86 l0 x4_1).f0)] rfl (by (try simp only [List.map_toArray, List.map_cons, List.map_nil]); first | done | rfl | (simp only [List.length_drop, List.length_take]; rfl)) ?_; (with_reducible refine (deadboltref6_Verb.calls ((rd_T86 l0 x4_1).f0) t201 _ A4.out).mono ?_); rintro e w29 ⟨rfl, hb⟩; refine ⟨_, rfl, ?_⟩; have n0_ := Aside0.mk (below_step (by repeat (first | (with_reducible first | exact HB.out | apply below_alloc | apply pw_below_drewN | apply below_drew1) | exact HB.out)) hb); clear HB; have HB := n0_; clear n0_; (try clear hb); (try clear hb2); (try clear hk); (try clear hi); have p202 : 0 ≤ (x4_1 : Int) := of_decide_eq_true (by first | (with_reducible assumption) | assumption); have q202 : x4_1 < (l0.length : Int) := of_decide_eq_true (by first | (with_reducible assumption) | assumption); obtain ⟨ad202, A202_3, c202_3, A202_4, c202_4, e202, hx202_0, hx202_1, hx202_2, hx202_3, hx202_4, hl202_3, hi202_3, hl202_4, hi202_4⟩ := at_T86 HR0.out x4_1 p202 q202; obtain rfl : ad200 = ad202 := (by injection e202); replace hx202_0 := (HB.out.cell (World.block_lt_of_cell? w _ hx202_0)).trans hx202_0; replace hx202_1 := (HB.out.cell (World.block_lt_of_cell? w _ hx202_1)).trans hx202_1; replace hx202_2 := (HB.out.cell (World.block_lt_of_cell? w _ hx202_2)).trans hx202_2; replace hx202_3 := (HB.out.cell (World.block_lt_of_cell? w _ hx202_3)).trans hx202_3; replace hx202_4 := (HB.out.cell (World.block_lt_of_cell? w _ hx202_4)).trans hx202_4; have HR202_3 := Aside0.mk hi202_3; have HC202_3 := Aside0.mk hl202_3; clear hi202_3 hl202_3; have HR202_4 := Aside0.mk hi202_4; have HC202_4 := Aside0.mk hl202_4; clear hi202_4 hl202_4; replace p202 := eq_true p202; replace q202 := eq_true q202; have p210 : 0 ≤ (x4_1 : Int) := of_decide_eq_true (by first | (with_reducible assumption) | assumption); have q210 : x4_1 < (l0.length : Int) := of_decide_eq_true (by first | (with_reducible assumption) | assumption); obtain ⟨ad210, A210_3, c210_3, A210_4, c210_4, e210, hx210_0, hx210_1, hx210_2, hx210_3, hx210_4, hl210_3, hi210_3, hl210_4, hi210_4⟩ := at_T86 HR0.out x4_1 p210 q210; obtain rfl : ad200 = ad210 := (by injection e210); replace hx210_0 := (HB.out.cell (World.block_lt_of_cell? w _ hx210_0)).trans hx210_0; replace hx210_1 := (HB.out.cell (World.block_lt_of_cell? w _ hx210_1)).trans hx210_1; replace hx210_2 := (HB.out.cell (World.block_lt_of_cell? w _ hx210_2)).trans hx210_2; replace hx210_3 := (HB.out.cell (World.block_lt_of_cell? w _ hx210_3)).trans hx210_3; replace hx210_4 := (HB.out.cell (World.block_lt_of_cell? w _ hx210_4)).trans hx210_4; have HR210_3 := Aside0.mk hi210_3; have HC210_3 := Aside0.mk hl210_3; clear hi210_3 hl210_3; have HR210_4 := Aside0.mk hi210_4; have HC210_4 := Aside0.mk hl210_4; clear hi210_4 hl210_4; replace p210 := eq_true p210; replace q210 := eq_true q210; have ea_ := Option.some.inj (hx202_3.symm.trans hx210_3); injection ea_ with ea_ en_ ec_; subst ea_; subst ec_; clear en_; have ea_ := Option.some.inj (hx202_4.symm.trans hx210_4); injection ea_ with ea_ en_ ec_; subst ea_; subst ec_; clear en_))
                      go_roundg k1
                      case measure => have := HK1.out; omega
                      case rel => exact ⟨((((x3_1 ++ t201) ++ (⟨#[32]⟩ : ByteArray)) ++ ((rd_T86 l0 x4_1).f2)) ++ (⟨#[32]⟩ : ByteArray)), (wrap64 (x4_1 + 1)), (by first | rfl | (simp; done) | (simp [*]; done)), (by first | rfl | (simp; done) | (simp [*]; done)), H', ⟨by have := HK1.out; omega⟩, ⟨by repeat (first | (with_reducible first | exact HB.out | apply below_alloc | apply pw_below_drewN | apply below_drew1) | exact HB.out)⟩⟩
                    · rw [if_neg c28] at H
                      exact absurd H (by simp)
                  · rw [if_neg c27] at H
                    exact absurd H (by simp)
            · rw [if_neg c6] at H
              exact absurd H (by simp)
          · rw [if_neg c5] at H
            exact absurd H (by simp)
        · rw [if_neg c3] at H
          exact absurd H (by simp)
      · rw [if_neg c2] at H
        have c2b0 : decide (x4_1 < (l0.length : Int)) = false := decide_eq_false c2
        clear c2
        by_cases c30 : x3_1.size + 1 ≤ 9223372036854775807
        · rw [if_pos c30] at H
          have c30b0 := eq_true c30
          have c30b1 : decide (x3_1.size + 1 ≤ 9223372036854775807) = true := decide_eq_true c30
          try have c30b2 : (9223372036854775807 < x3_1.size + 1) = False := eq_false (Nat.not_lt.2 c30)
          obtain rfl := Option.some.inj H
          go_wp2
          go_ret
          exact ⟨by first | rfl | (simp [errW_none, errW_some] <;> rfl) | (simp [*, errW_none, errW_some] <;> rfl), by repeat (first | (with_reducible first | exact HB.out | apply below_alloc | apply pw_below_drewN | apply below_drew1) | exact HB.out)⟩
        · rw [if_neg c30] at H
          exact absurd H (by simp)

/-! ### deadboltref6_Body: function 25 -/
def deadboltref6_Body.f (k : Nat) (a0_0 : ByteArray) (a0_1 : Int) (l0_2 : List (S86)) : Option (ByteArray) := (deadboltref6_block.f k l0_2).bind fun t212 => (some t212)
theorem deadboltref6_Body.mono : ∀ a0 a1 a2 k, LeO (deadboltref6_Body.f k a0 a1 a2) (deadboltref6_Body.f (k + 1) a0 a1 a2) := by
  intro a0 a1 a2 k
  unfold deadboltref6_Body.f
  repeat' first
      | (with_reducible exact deadboltref6_block.mono _ _)
      | (with_reducible exact LeO.refl _)
      | (with_reducible exact LeO.none _)
      | (with_reducible refine LeO.ite ?_ ?_)
      | (with_reducible refine LeO.bind ?_ (fun _ => ?_))
      | exact deadboltref6_block.mono _ _
      | exact LeO.none _
      | refine LeO.ite ?_ ?_
      | refine LeO.bind ?_ (fun _ => ?_)
set_option maxHeartbeats 8000000 in
set_option maxRecDepth 100000 in
theorem deadboltref6_Body.calls (k : Nat) (a0_0 : ByteArray) (a0_1 : Int) (A0_2 : Option Addr) (c0_2 : Nat) (l0_2 : List (S86)) (r : ByteArray) (w : World) (hr0_2 : Kd.C k86 w A0_2 l0_2.length l0_2) (hc0_2 : l0_2.length ≤ c0_2) (h : deadboltref6_Body.f k a0_0 a0_1 l0_2 = some r) :
    Calls Tryd.prog 25 #[.agg #[.string a0_0, .int .i64 a0_1, .slice A0_2 l0_2.length c0_2]] w fun e w' => e = .returned (.string r) ∧ Below w.heap.size w w' := by
  have hu46 := Tryd.underlying46
  have HR0_2 := Aside0.mk hr0_2
  have HC0_2 := Aside0.mk hc0_2
  clear hr0_2 hc0_2
  have HB := Aside0.mk (Below.refl w.heap.size w)
  have H : ((deadboltref6_block.f k l0_2).bind fun t212 => (some t212)) = some r := h
  clear h
  replace H := Option.bind_eq_some_iff.mp H
  obtain ⟨t212, A20, H⟩ := H
  replace H : (some t212) = some r := H
  have A2 := Aside0.mk A20
  clear A20
  obtain rfl := Option.some.inj H
  go_enter Tryd.func25, Tryd.ntmps25
  go_wp2_with (first | ((with_reducible refine gate_dst (N := 1) rfl ?_); refine box_event ?hg (N := 1) ?hd (cs := #[.string a0_0, .int .i64 a0_1, .slice A0_2 l0_2.length c0_2]) (t := 46) ?hr ?_; (case hd => rfl); (case hg => rfl); (case hr => first | (go_simp; done) | (go_simp; rfl)); intro gb211 hg w3 hbox hb; have n0_ := Aside0.mk (below_step (by repeat (first | (with_reducible first | exact HB.out | apply below_alloc | apply pw_below_drewN | apply below_drew1) | exact HB.out)) hb); have n1_ := Aside0.mk (hbox); have n2_ := Aside0.mk ((by rw [hg]; exact (below_size (by repeat (first | (with_reducible first | exact HB.out | apply below_alloc | apply pw_below_drewN | apply below_drew1) | exact HB.out))) : w.heap.size ≤ gb211)); have n3_ := Aside0.mk ((by rw [hg]; exact (below_size (by repeat (first | (with_reducible first | exact HB.out | apply below_alloc | apply pw_below_drewN | apply below_drew1) | exact HB.out))) : w.heap.size ≤ gb211)); clear HB; have HB := n0_; have BK211 := n1_; have GW211 := n2_; have GE211 := n3_; clear n0_ n1_ n2_ n3_; clear hb hbox hg; have hcz4_0 : w3.cell? ⟨gb211, 0, none⟩ = some (.string a0_0) := (blk_cell BK211.out 0).trans rfl; have hcz4_1 : w3.cell? ⟨gb211, 1, none⟩ = some (.int .i64 a0_1) := (blk_cell BK211.out 1).trans rfl; have hcz4_2 : w3.cell? ⟨gb211, 2, none⟩ = some (.slice A0_2 l0_2.length c0_2) := (blk_cell BK211.out 2).trans rfl; have hfz4_0 := blk_frozen BK211.out 0; have hfz4_1 := blk_frozen BK211.out 1; have hfz4_2 := blk_frozen BK211.out 2) | ((with_reducible refine gate_callee (f := 50) rfl ?_); refine goesL_ (some 5) rfl rfl Tryd.func50 (by kernel_rfl) rfl #[.slice A0_2 l0_2.length c0_2] rfl (by (try simp only [List.map_toArray, List.map_cons, List.map_nil]); first | done | rfl | (simp only [List.length_drop, List.length_take]; rfl)) ?_; (with_reducible refine (deadboltref6_block.calls k _ _ l0_2 t212 _ ?side1 ?side2 A2.out).mono ?_); (case side1 => repeat (first | exact (Kd.C_below HR0_2.out HB.out) | (with_reducible refine Kd.C_alloc ?_ _) | (with_reducible refine Kd.C_drewN ?_ _) | (with_reducible refine Kd.C_drew ?_))); (case side2 => exact HC0_2.out); rintro e w5 ⟨rfl, hb⟩; refine ⟨_, rfl, ?_⟩; have n0_ := Aside0.mk (blk_below (g := gb211) (o := .cells #[.string a0_0, .int .i64 a0_1, .slice A0_2 l0_2.length c0_2] 46 (0, 0)) (by (with_reducible repeat (first | refine blk_drewN ?_ _ | refine blk_drew ?_ | refine blk_alloc ?_ _)); exact BK211.out) hb); have n1_ := Aside0.mk (below_step (by repeat (first | (with_reducible first | exact HB.out | apply below_alloc | apply pw_below_drewN | apply below_drew1 | refine below_set ?_ GE211.out) | exact HB.out)) hb); clear BK211; clear HB; have BK211 := n0_; have HB := n1_; clear n0_ n1_; (try clear hb); (try clear hb2); (try clear hk); (try clear hi)))
  go_ret
  exact ⟨by first | rfl | (simp [errW_none, errW_some] <;> rfl) | (simp [*, errW_none, errW_some] <;> rfl), by repeat (first | (with_reducible first | exact HB.out | apply below_alloc | apply pw_below_drewN | apply below_drew1 | refine below_set ?_ GE211.out) | exact HB.out)⟩

end Go.Proofs.YtkmafndljelopaaDoor.Q
