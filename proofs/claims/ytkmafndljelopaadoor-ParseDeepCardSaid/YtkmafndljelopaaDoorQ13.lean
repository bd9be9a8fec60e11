-- written by wip/xprint.py (over the kit's print.py) out of the translation. Not trusted: Lean checks it.
import Derived.Test.YtkmafndljelopaaDoorQ0
import Derived.Test.YtkmafndljelopaaDoorQ3
import Derived.Test.YtkmafndljelopaaDoorQ12
import Derived.Test.YtkmafndljelopaaDoorPar3
namespace Go.Proofs.YtkmafndljelopaaDoor.Q
open Go.RowKit Go.Proofs.YtkmafndljelopaaDoorW.PrintWords Go.Proofs.YtkmafndljelopaaDoorW.PrintLast Go.Proofs.YtkmafndljelopaaDoorW.PrintMore
attribute [local go_sem] max2_int min2_int max_two min_two max_three min_three max_four min_four   -- for this text's walks alone
set_option linter.unusedVariables false
set_option linter.unusedSimpArgs false

/-! ### deadboltlaw6_ParseDeep: function 4 -/
mutual
def deadboltlaw6_ParseDeep.l0 : Nat → Int → List Int → ByteArray → Int → Int → Option (Bool)
  | 0, _, _, _, _, _ => none
  | k + 1, x0, x1, x5, x6, x7 => if x7 ≤ x0 then (if x7 < (x1.length : Int) then (if 0 ≤ x7 then (deadboltlaw6_ParseDeep.j1 k x0 x1 x5 x6 x7 (rd x1 x7)) else (none)) else (deadboltlaw6_ParseDeep.j1 k x0 x1 x5 x6 x7 x7)) else (deadboltlaw6_ParseDeep.l1 k x0 x5 x6 0)
def deadboltlaw6_ParseDeep.j1 : Nat → Int → List Int → ByteArray → Int → Int → Int → Option (Bool)
  | 0, _, _, _, _, _, _ => none
  | k + 1, x0, x1, x5, x6, x7, x8 => (some (([(⟨#[105, 102, 32]⟩ : ByteArray), (⟨#[108, 111, 111, 112, 32]⟩ : ByteArray), (⟨#[105, 102, 32, 123, 32, 125, 32, 101, 108, 115, 101, 32]⟩ : ByteArray)] : List ByteArray) : List ByteArray)).bind fun y465 => ((deadboltlaw6_within.f x8 3).bind fun t468 => (if 0 ≤ t468 then (if t468 < (y465.length : Int) then (if x5.size + (rdOf ByteArray.empty y465 t468).size ≤ 9223372036854775807 then (if x7 = 20 then ((deadboltlaw6_within.f x8 3).bind fun t470 => (if t470 = 2 then (if (x5 ++ (rdOf ByteArray.empty y465 t468)).size + 2 ≤ 9223372036854775807 then (deadboltlaw6_ParseDeep.l0 k x0 x1 ((x5 ++ (rdOf ByteArray.empty y465 t468)) ++ (⟨#[123, 32]⟩ : ByteArray)) (wrap64 (((x5 ++ (rdOf ByteArray.empty y465 t468)).size : Int) - 9)) (wrap64 (x7 + 1))) else (none)) else (if (x5 ++ (rdOf ByteArray.empty y465 t468)).size + 2 ≤ 9223372036854775807 then (deadboltlaw6_ParseDeep.l0 k x0 x1 ((x5 ++ (rdOf ByteArray.empty y465 t468)) ++ (⟨#[123, 32]⟩ : ByteArray)) ((x5 ++ (rdOf ByteArray.empty y465 t468)).size : Int) (wrap64 (x7 + 1))) else (none)))) else (if (x5 ++ (rdOf ByteArray.empty y465 t468)).size + 2 ≤ 9223372036854775807 then (deadboltlaw6_ParseDeep.l0 k x0 x1 ((x5 ++ (rdOf ByteArray.empty y465 t468)) ++ (⟨#[123, 32]⟩ : ByteArray)) x6 (wrap64 (x7 + 1))) else (none))) else (none)) else (none)) else (none)))
def deadboltlaw6_ParseDeep.l1 : Nat → Int → ByteArray → Int → Int → Option (Bool)
  | 0, _, _, _, _ => none
  | k + 1, x0, x5, x6, x9 => if x9 ≤ x0 then (if x5.size + 2 ≤ 9223372036854775807 then (deadboltlaw6_ParseDeep.l1 k x0 (x5 ++ (⟨#[125, 32]⟩ : ByteArray)) x6 (wrap64 (x9 + 1))) else (none)) else ((parse_Parse.f x5).bind fun bt471 => (if x0 ≥ 20 then (if bt471.2.2.2.2 = 8 then (if bt471.2.2.2.1 = x6 then (some ((bt471.2.2.1.length : Int) == 0)) else (some false)) else (some false)) else (if bt471.2.2.2.2 = 0 then (if bt471.2.2.2.1 = 0 then (some ((bt471.2.2.1.length : Int) == 1)) else (some false)) else (some false))))
end
def deadboltlaw6_ParseDeep.f (k : Nat) (a0 : Int) (l1 : List Int) : Option (Bool) := (deadboltlaw6_known.f).bind fun t462 => (if t462 = true then ((deadboltlaw6_within.f a0 26).bind fun t463 => (deadboltlaw6_ParseDeep.l0 k t463 l1 (⟨#[102, 117, 110, 99, 32, 109, 97, 105, 110, 32, 123, 32]⟩ : ByteArray) 0 1)) else (some false))
theorem deadboltlaw6_ParseDeep.mono_l : ∀ k, (∀ y0 y1 y2 y3 y4, LeO (deadboltlaw6_ParseDeep.l0 k y0 y1 y2 y3 y4) (deadboltlaw6_ParseDeep.l0 (k + 1) y0 y1 y2 y3 y4)) ∧ (∀ y0 y1 y2 y3 y4 y5, LeO (deadboltlaw6_ParseDeep.j1 k y0 y1 y2 y3 y4 y5) (deadboltlaw6_ParseDeep.j1 (k + 1) y0 y1 y2 y3 y4 y5)) ∧ (∀ y0 y1 y2 y3, LeO (deadboltlaw6_ParseDeep.l1 k y0 y1 y2 y3) (deadboltlaw6_ParseDeep.l1 (k + 1) y0 y1 y2 y3))
  | 0 => ⟨fun _ _ _ _ _ r h => by simp [deadboltlaw6_ParseDeep.l0] at h, fun _ _ _ _ _ _ r h => by simp [deadboltlaw6_ParseDeep.j1] at h, fun _ _ _ _ r h => by simp [deadboltlaw6_ParseDeep.l1] at h⟩
  | k + 1 => by
    obtain ⟨ih0, ih1, ih2⟩ := deadboltlaw6_ParseDeep.mono_l k
    refine ⟨?_, ?_, ?_⟩
    · intro y0 y1 y2 y3 y4
      unfold deadboltlaw6_ParseDeep.l0
      repeat' first
      | (with_reducible exact ih0 _ _ _ _ _)
      | (with_reducible exact ih1 _ _ _ _ _ _)
      | (with_reducible exact ih2 _ _ _ _)
      | (with_reducible exact LeO.refl _)
      | (with_reducible exact LeO.none _)
      | (with_reducible refine LeO.ite ?_ ?_)
      | (with_reducible refine LeO.bind ?_ (fun _ => ?_))
      | exact ih0 _ _ _ _ _
      | exact ih1 _ _ _ _ _ _
      | exact ih2 _ _ _ _
      | exact LeO.none _
      | refine LeO.ite ?_ ?_
      | refine LeO.bind ?_ (fun _ => ?_)
    · intro y0 y1 y2 y3 y4 y5
      unfold deadboltlaw6_ParseDeep.j1
      repeat' first
      | (with_reducible exact ih0 _ _ _ _ _)
      | (with_reducible exact ih1 _ _ _ _ _ _)
      | (with_reducible exact ih2 _ _ _ _)
      | (with_reducible exact LeO.refl _)
      | (with_reducible exact LeO.none _)
      | (with_reducible refine LeO.ite ?_ ?_)
      | (with_reducible refine LeO.bind ?_ (fun _ => ?_))
      | exact ih0 _ _ _ _ _
      | exact ih1 _ _ _ _ _ _
      | exact ih2 _ _ _ _
      | exact LeO.none _
      | refine LeO.ite ?_ ?_
      | refine LeO.bind ?_ (fun _ => ?_)
    · intro y0 y1 y2 y3
      unfold deadboltlaw6_ParseDeep.l1
      repeat' first
      | (with_reducible exact ih0 _ _ _ _ _)
      | (with_reducible exact ih1 _ _ _ _ _ _)
      | (with_reducible exact ih2 _ _ _ _)
      | (with_reducible exact LeO.refl _)
      | (with_reducible exact LeO.none _)
      | (with_reducible refine LeO.ite ?_ ?_)
      | (with_reducible refine LeO.bind ?_ (fun _ => ?_))
      | exact ih0 _ _ _ _ _
      | exact ih1 _ _ _ _ _ _
      | exact ih2 _ _ _ _
      | exact LeO.none _
      | refine LeO.ite ?_ ?_
      | refine LeO.bind ?_ (fun _ => ?_)
theorem deadboltlaw6_ParseDeep.mono : ∀ a0 a1 k, LeO (deadboltlaw6_ParseDeep.f k a0 a1) (deadboltlaw6_ParseDeep.f (k + 1) a0 a1) := by
  intro a0 a1 k
  obtain ⟨ih0, ih1, ih2⟩ := deadboltlaw6_ParseDeep.mono_l k
  unfold deadboltlaw6_ParseDeep.f
  repeat' first
      | (with_reducible exact ih0 _ _ _ _ _)
      | (with_reducible exact ih1 _ _ _ _ _ _)
      | (with_reducible exact ih2 _ _ _ _)
      | (with_reducible exact LeO.refl _)
      | (with_reducible exact LeO.none _)
      | (with_reducible refine LeO.ite ?_ ?_)
      | (with_reducible refine LeO.bind ?_ (fun _ => ?_))
      | exact ih0 _ _ _ _ _
      | exact ih1 _ _ _ _ _ _
      | exact ih2 _ _ _ _
      | exact LeO.none _
      | refine LeO.ite ?_ ?_
      | refine LeO.bind ?_ (fun _ => ?_)
set_option maxHeartbeats 8000000 in
set_option maxRecDepth 100000 in
theorem deadboltlaw6_ParseDeep.calls (k : Nat) (a0 : Int) (A1 : Option Addr) (c1 : Nat) (l1 : List Int) (r : Bool) (w : World) (hr1 : Kd.C (Kd.int .i64) w A1 l1.length l1) (hc1 : l1.length ≤ c1) (h : deadboltlaw6_ParseDeep.f k a0 l1 = some r) (hG : GL w) :
    Calls Tryd.prog 4 #[.int .i64 a0, .slice A1 l1.length c1] w fun e w' => e = .returned (.bool r) ∧ Below w.heap.size w w' := by
  have HG := Aside0.mk hG
  clear hG
  have hu30 := Tryd.underlying30
  have HR1 := Aside0.mk hr1
  have HC1 := Aside0.mk hc1
  clear hr1 hc1
  have HB := Aside0.mk (Below.refl w.heap.size w)
  have H : ((deadboltlaw6_known.f).bind fun t462 => (if t462 = true then ((deadboltlaw6_within.f a0 26).bind fun t463 => (deadboltlaw6_ParseDeep.l0 k t463 l1 (⟨#[102, 117, 110, 99, 32, 109, 97, 105, 110, 32, 123, 32]⟩ : ByteArray) 0 1)) else (some false))) = some r := h
  clear h
  replace H := Option.bind_eq_some_iff.mp H
  obtain ⟨t462, A30, H⟩ := H
  replace H : (if t462 = true then ((deadboltlaw6_within.f a0 26).bind fun t463 => (deadboltlaw6_ParseDeep.l0 k t463 l1 (⟨#[102, 117, 110, 99, 32, 109, 97, 105, 110, 32, 123, 32]⟩ : ByteArray) 0 1)) else (some false)) = some r := H
  have A3 := Aside0.mk A30
  clear A30
  by_cases c4 : t462 = true
  · subst c4
    have H1 : ((deadboltlaw6_within.f a0 26).bind fun t463 => (deadboltlaw6_ParseDeep.l0 k t463 l1 (⟨#[102, 117, 110, 99, 32, 109, 97, 105, 110, 32, 123, 32]⟩ : ByteArray) 0 1)) = some r := by rw [if_pos rfl] at H; exact H
    clear H
    have H := H1
    clear H1
    replace H := Option.bind_eq_some_iff.mp H
    obtain ⟨t463, A50, H⟩ := H
    replace H : (deadboltlaw6_ParseDeep.l0 k t463 l1 (⟨#[102, 117, 110, 99, 32, 109, 97, 105, 110, 32, 123, 32]⟩ : ByteArray) 0 1) = some r := H
    have A5 := Aside0.mk A50
    clear A50
    have H' := Aside0.mk H
    clear H
    go_enter Tryd.func4, Tryd.ntmps4
    go_wp2_with (first | ((with_reducible refine gate_callee (f := 11) rfl ?_); refine goesL_ (some 13) rfl rfl Tryd.func11 (by kernel_rfl) rfl #[] rfl (by (try simp only [List.map_toArray, List.map_cons, List.map_nil]); first | done | rfl | (simp only [List.length_drop, List.length_take]; rfl)) ?_; (with_reducible refine (deadboltlaw6_known.calls  true _ A3.out (by first | exact HG.out | exact GL.drewN HG.out _ | exact GL.drewN (GL.drewN HG.out _) _ | exact GL.of_below HG.out (by repeat (first | (with_reducible first | exact HB.out | apply below_alloc | apply pw_below_drewN | apply below_drew1 | refine below_set ?_ GE482.out) | exact HB.out)))).mono ?_); rintro e w6 ⟨rfl, hb⟩; refine ⟨_, rfl, ?_⟩; have n0_ := Aside0.mk (below_step (by repeat (first | (with_reducible first | exact HB.out | apply below_alloc | apply pw_below_drewN | apply below_drew1) | exact HB.out)) hb); clear HB; have HB := n0_; clear n0_; (try clear hb); (try clear hb2); (try clear hk); (try clear hi)) | ((with_reducible refine gate_callee (f := 15) rfl ?_); refine goesL_ (some 16) rfl rfl Tryd.func15 (by kernel_rfl) rfl #[.int .i64 a0, .int .i64 26] rfl (by (try simp only [List.map_toArray, List.map_cons, List.map_nil]); first | done | rfl | (simp only [List.length_drop, List.length_take]; rfl)) ?_; (with_reducible refine (deadboltlaw6_within.calls a0 26 t463 _ A5.out).mono ?_); rintro e w' ⟨rfl, ⟨nd, rfl⟩⟩; refine ⟨_, rfl, ?_⟩))
    go_loopg [5, 6, 7] k (fun kq v5 v6 v7 w' => ∃ (x5_1 : ByteArray) (x6_1 : Int) (x7_1 : Int), v5 = .string x5_1 ∧ v6 = .int .i64 x6_1 ∧ v7 = .int .i64 x7_1 ∧ Aside0 (deadboltlaw6_ParseDeep.l0 kq t463 l1 x5_1 x6_1 x7_1 = some r) ∧ Aside0 (kq ≤ k) ∧ Aside0 (Below w.heap.size w w'))
    case atStart => exact ⟨((⟨#[102, 117, 110, 99, 32, 109, 97, 105, 110, 32, 123, 32]⟩ : ByteArray)), (0), (1), (by first | rfl | (simp; done) | (simp [*]; done) | (simp; unfold wrap64; omega)), (by first | rfl | (simp; done) | (simp [*]; done) | (simp; unfold wrap64; omega)), (by first | rfl | (simp; done) | (simp [*]; done) | (simp; unfold wrap64; omega)), H', ⟨Nat.le_refl _⟩, ⟨by repeat (first | (with_reducible first | exact HB.out | apply below_alloc | apply pw_below_drewN | apply below_drew1) | exact HB.out)⟩⟩
    case round =>
      clear H'
      try clear c1
      try clear p2
      try clear c4
      obtain ⟨x5_1, x6_1, x7_1, rfl, rfl, rfl, HA, HK1, HB⟩ := hrel
      cases gk with
      | zero => exact absurd HA.out (by simp [deadboltlaw6_ParseDeep.l0])
      | succ k1 =>
        have H := HA.out
        clear HA
        simp only [deadboltlaw6_ParseDeep.l0] at H
        by_cases c7 : x7_1 ≤ t463
        · rw [if_pos c7] at H
          have c7b0 : decide (x7_1 ≤ t463) = true := decide_eq_true c7
          clear c7
          have HC8 := Aside0.mk H
          clear H
          go_upto_if 26 with (fail)
          go_cut [8] (fun v8 wc => ∃ (kq : Nat) (x8_7 : Int), v8 = .int .i64 x8_7 ∧ Aside0 (deadboltlaw6_ParseDeep.j1 kq t463 l1 x5_1 x6_1 x7_1 x8_7 = some r) ∧ Aside0 (kq ≤ k1) ∧ Aside0 (Below w.heap.size w wc))
          case first =>
            have H := HC8.out
            clear HC8
            by_cases c9 : x7_1 < (l1.length : Int)
            · rw [if_pos c9] at H
              have c9b0 : decide (x7_1 < (l1.length : Int)) = true := decide_eq_true c9
              clear c9
              (first | rw [c9b0] | (simp only [i64_w, i32_w]; rw [c9b0]) | skip)
              by_cases c10 : 0 ≤ x7_1
              · rw [if_pos c10] at H
                have c10b0 : decide (0 ≤ x7_1) = true := decide_eq_true c10
                clear c10
                have H' := Aside0.mk H
                clear H
                have p464 : 0 ≤ (x7_1 : Int) := of_decide_eq_true (by first | (with_reducible assumption) | assumption)
                have q464 : x7_1 < (l1.length : Int) := of_decide_eq_true (by first | (with_reducible assumption) | assumption)
                obtain ⟨ad464, e464, hx464_0⟩ := Kd.at_int HR1.out x7_1 p464 q464
                cases e464
                replace hx464_0 := (HB.out.cell (World.block_lt_of_cell? w _ hx464_0)).trans hx464_0
                replace p464 := eq_true p464
                replace q464 := eq_true q464
                go_wp2
                go_meet
                case rel => exact ⟨_, (rd l1 x7_1), (by first | rfl | (simp; done) | (simp [*]; done) | (simp; unfold wrap64; omega)), H', ⟨by have := HK1.out; first | omega | exact Nat.le_refl _⟩, ⟨by repeat (first | (with_reducible first | exact HB.out | apply below_alloc | apply pw_below_drewN | apply below_drew1) | exact HB.out)⟩⟩
              · rw [if_neg c10] at H
                exact absurd H (by simp)
            · rw [if_neg c9] at H
              have c9b0 : decide (x7_1 < (l1.length : Int)) = false := decide_eq_false c9
              clear c9
              (first | rw [c9b0] | (simp only [i64_w, i32_w]; rw [c9b0]) | skip)
              have H' := Aside0.mk H
              clear H
              go_wp2
              go_meet
              case rel => exact ⟨_, (x7_1), (by first | rfl | (simp; done) | (simp [*]; done) | (simp; unfold wrap64; omega)), H', ⟨by have := HK1.out; first | omega | exact Nat.le_refl _⟩, ⟨by repeat (first | (with_reducible first | exact HB.out | apply below_alloc | apply pw_below_drewN | apply below_drew1) | exact HB.out)⟩⟩
          case rest =>
            clear HC8
            try clear c1
            try clear p2
            try clear c4
            try clear p4
            try clear q4
            try clear hx4
            try clear c7
            try clear c7b0
            try clear c9
            try clear c9b0
            try clear c10
            try clear c10b0
            try clear hx464_0
            try clear p2
            try clear p464
            try clear q464
            obtain ⟨kq, x8_7, rfl, HA, HJ7, HB⟩ := hcut
            cases kq with
            | zero => exact absurd HA.out (by simp [deadboltlaw6_ParseDeep.j1])
            | succ kj7 =>
              have H := HA.out
              clear HA
              simp only [deadboltlaw6_ParseDeep.j1] at H
              obtain ⟨y465, hy465⟩ : ∃ y_ : List ByteArray, y_ = (([(⟨#[105, 102, 32]⟩ : ByteArray), (⟨#[108, 111, 111, 112, 32]⟩ : ByteArray), (⟨#[105, 102, 32, 123, 32, 125, 32, 101, 108, 115, 101, 32]⟩ : ByteArray)] : List ByteArray)) := ⟨_, rfl⟩
              replace H : ((deadboltlaw6_within.f x8_7 3).bind fun t468 => (if 0 ≤ t468 then (if t468 < (y465.length : Int) then (if x5_1.size + (rdOf ByteArray.empty y465 t468).size ≤ 9223372036854775807 then (if x7_1 = 20 then ((deadboltlaw6_within.f x8_7 3).bind fun t470 => (if t470 = 2 then (if (x5_1 ++ (rdOf ByteArray.empty y465 t468)).size + 2 ≤ 9223372036854775807 then (deadboltlaw6_ParseDeep.l0 kj7 t463 l1 ((x5_1 ++ (rdOf ByteArray.empty y465 t468)) ++ (⟨#[123, 32]⟩ : ByteArray)) (wrap64 (((x5_1 ++ (rdOf ByteArray.empty y465 t468)).size : Int) - 9)) (wrap64 (x7_1 + 1))) else (none)) else (if (x5_1 ++ (rdOf ByteArray.empty y465 t468)).size + 2 ≤ 9223372036854775807 then (deadboltlaw6_ParseDeep.l0 kj7 t463 l1 ((x5_1 ++ (rdOf ByteArray.empty y465 t468)) ++ (⟨#[123, 32]⟩ : ByteArray)) ((x5_1 ++ (rdOf ByteArray.empty y465 t468)).size : Int) (wrap64 (x7_1 + 1))) else (none)))) else (if (x5_1 ++ (rdOf ByteArray.empty y465 t468)).size + 2 ≤ 9223372036854775807 then (deadboltlaw6_ParseDeep.l0 kj7 t463 l1 ((x5_1 ++ (rdOf ByteArray.empty y465 t468)) ++ (⟨#[123, 32]⟩ : ByteArray)) x6_1 (wrap64 (x7_1 + 1))) else (none))) else (none)) else (none)) else (none))) = some r := by first | (rw [hy465]; with_reducible exact H) | (have H2_ := (Option.bind_some _ _).symm.trans H; rw [hy465]; with_reducible exact H2_) | (have H2_ := (Option.bind_some _ _).symm.trans H; with_reducible exact H2_) | with_reducible exact H | (rw [hy465]; exact H) | exact H
              have Ny465 := Aside0.mk hy465
              clear hy465
              replace H := Option.bind_eq_some_iff.mp H
              obtain ⟨t468, A110, H⟩ := H
              replace H : (if 0 ≤ t468 then (if t468 < (y465.length : Int) then (if x5_1.size + (rdOf ByteArray.empty y465 t468).size ≤ 9223372036854775807 then (if x7_1 = 20 then ((deadboltlaw6_within.f x8_7 3).bind fun t470 => (if t470 = 2 then (if (x5_1 ++ (rdOf ByteArray.empty y465 t468)).size + 2 ≤ 9223372036854775807 then (deadboltlaw6_ParseDeep.l0 kj7 t463 l1 ((x5_1 ++ (rdOf ByteArray.empty y465 t468)) ++ (⟨#[123, 32]⟩ : ByteArray)) (wrap64 (((x5_1 ++ (rdOf ByteArray.empty y465 t468)).size : Int) - 9)) (wrap64 (x7_1 + 1))) else (none)) else (if (x5_1 ++ (rdOf ByteArray.empty y465 t468)).size + 2 ≤ 9223372036854775807 then (deadboltlaw6_ParseDeep.l0 kj7 t463 l1 ((x5_1 ++ (rdOf ByteArray.empty y465 t468)) ++ (⟨#[123, 32]⟩ : ByteArray)) ((x5_1 ++ (rdOf ByteArray.empty y465 t468)).size : Int) (wrap64 (x7_1 + 1))) else (none)))) else (if (x5_1 ++ (rdOf ByteArray.empty y465 t468)).size + 2 ≤ 9223372036854775807 then (deadboltlaw6_ParseDeep.l0 kj7 t463 l1 ((x5_1 ++ (rdOf ByteArray.empty y465 t468)) ++ (⟨#[123, 32]⟩ : ByteArray)) x6_1 (wrap64 (x7_1 + 1))) else (none))) else (none)) else (none)) else (none)) = some r := H
              have A11 := Aside0.mk A110
              clear A110
              by_cases c12 : 0 ≤ t468
              · rw [if_pos c12] at H
                have c12b0 : decide (0 ≤ t468) = true := decide_eq_true c12
                clear c12
                by_cases c13 : t468 < (y465.length : Int)
                · rw [if_pos c13] at H
                  have c13b0 : decide (t468 < (y465.length : Int)) = true := decide_eq_true c13
                  clear c13
                  by_cases c14 : x5_1.size + (rdOf ByteArray.empty y465 t468).size ≤ 9223372036854775807
                  · rw [if_pos c14] at H
                    have c14b0 := eq_true c14
                    have c14b1 : decide (x5_1.size + (rdOf ByteArray.empty y465 t468).size ≤ 9223372036854775807) = true := decide_eq_true c14
                    try have c14b2 : (9223372036854775807 < x5_1.size + (rdOf ByteArray.empty y465 t468).size) = False := eq_false (Nat.not_lt.2 c14)
                    by_cases c15 : x7_1 = 20
                    · rw [if_pos c15] at H
                      have c15b0 : (x7_1 == 20) = true := beq_iff_eq.mpr c15
                      have c15b1 : (x7_1 != 20) = false := bne_eq_false_iff_eq.mpr c15
                      clear c15
                      replace H := Option.bind_eq_some_iff.mp H
                      obtain ⟨t470, A160, H⟩ := H
                      replace H : (if t470 = 2 then (if (x5_1 ++ (rdOf ByteArray.empty y465 t468)).size + 2 ≤ 9223372036854775807 then (deadboltlaw6_ParseDeep.l0 kj7 t463 l1 ((x5_1 ++ (rdOf ByteArray.empty y465 t468)) ++ (⟨#[123, 32]⟩ : ByteArray)) (wrap64 (((x5_1 ++ (rdOf ByteArray.empty y465 t468)).size : Int) - 9)) (wrap64 (x7_1 + 1))) else (none)) else (if (x5_1 ++ (rdOf ByteArray.empty y465 t468)).size + 2 ≤ 9223372036854775807 then (deadboltlaw6_ParseDeep.l0 kj7 t463 l1 ((x5_1 ++ (rdOf ByteArray.empty y465 t468)) ++ (⟨#[123, 32]⟩ : ByteArray)) ((x5_1 ++ (rdOf ByteArray.empty y465 t468)).size : Int) (wrap64 (x7_1 + 1))) else (none))) = some r := H
                      have A16 := Aside0.mk A160
                      clear A160
                      by_cases c17 : t470 = 2
                      · rw [if_pos c17] at H
                        have c17b0 : (t470 == 2) = true := beq_iff_eq.mpr c17
                        have c17b1 : (t470 != 2) = false := bne_eq_false_iff_eq.mpr c17
                        clear c17
                        by_cases c18 : (x5_1 ++ (rdOf ByteArray.empty y465 t468)).size + 2 ≤ 9223372036854775807
                        · rw [if_pos c18] at H
                          have c18b0 := eq_true c18
                          have c18b1 : decide ((x5_1 ++ (rdOf ByteArray.empty y465 t468)).size + 2 ≤ 9223372036854775807) = true := decide_eq_true c18
                          (try (have c18t1 : decide (x5_1.size + (rdOf ByteArray.empty y465 t468).size + 2 ≤ 9223372036854775807) = true := by have h_ := c18b1; simp only [ByteArray.size_append] at h_; exact h_))
                          try have c18b2 : (9223372036854775807 < (x5_1 ++ (rdOf ByteArray.empty y465 t468)).size + 2) = False := eq_false (Nat.not_lt.2 c18)
                          (try (have c18t2 : (9223372036854775807 < x5_1.size + (rdOf ByteArray.empty y465 t468).size + 2) = False := by have h_ := c18b2; simp only [ByteArray.size_append] at h_; exact h_))
                          have H' := Aside0.mk H
                          clear H
                          go_wp2_with (first | ((with_reducible refine gate_dst (N := 32) rfl ?_); (try (refine gate_guard (by rfl) ?_; dsimp only)); refine Kd.R_lit Kd.string _ 9 ?hg (N := 32) ?hd (xs := ([(⟨#[105, 102, 32]⟩ : ByteArray), (⟨#[108, 111, 111, 112, 32]⟩ : ByteArray), (⟨#[105, 102, 32, 123, 32, 125, 32, 101, 108, 115, 101, 32]⟩ : ByteArray)] : List ByteArray)) (inner := [.string (⟨#[105, 102, 32]⟩ : ByteArray), .string (⟨#[108, 111, 111, 112, 32]⟩ : ByteArray), .string (⟨#[105, 102, 32, 123, 32, 125, 32, 101, 108, 115, 101, 32]⟩ : ByteArray)]) (ok := fun _ => True) (okp := fun _ => True) ?hr ?hp (fun _ hk => hk) trivial (Below.refl _ _) (Nat.le_refl _) (by simp) ?_; (case hd => rfl); (case hg => rfl); (case hr => first | (go_simp; done) | (go_simp; rfl)); (case hp => exact (Reps.one (show Kd.M Kd.string _ _ _ (⟨#[105, 102, 32]⟩ : ByteArray) [.string (⟨#[105, 102, 32]⟩ : ByteArray)] from rfl) (Reps.one (show Kd.M Kd.string _ _ _ (⟨#[108, 111, 111, 112, 32]⟩ : ByteArray) [.string (⟨#[108, 111, 111, 112, 32]⟩ : ByteArray)] from rfl) (Reps.one (show Kd.M Kd.string _ _ _ (⟨#[105, 102, 32, 123, 32, 125, 32, 101, 108, 115, 101, 32]⟩ : ByteArray) [.string (⟨#[105, 102, 32, 123, 32, 125, 32, 101, 108, 115, 101, 32]⟩ : ByteArray)] from rfl) (Reps.none _ _))))); intro v466 w19 ho20 hb hg_ hnew_; clear hg_ hnew_; (first | rw [← Ny465.out] at ho20 | (simp only [Int.reduceToNat] at ho20; rw [← Ny465.out] at ho20)); have n0_ := Aside0.mk (Kd.R_lower ho20 (below_size (by repeat (first | (with_reducible first | exact HB.out | apply below_alloc | apply pw_below_drewN | apply below_drew1) | exact HB.out)))); have n1_ := Aside0.mk (below_step (by repeat (first | (with_reducible first | exact HB.out | apply below_alloc | apply pw_below_drewN | apply below_drew1) | exact HB.out)) hb); clear HB; have HO467 := n0_; have HB := n1_; clear n0_ n1_; clear hb ho20) | ((with_reducible refine gate_callee (f := 15) rfl ?_); refine goesL_ (some 34) rfl rfl Tryd.func15 (by kernel_rfl) rfl #[.int .i64 x8_7, .int .i64 3] rfl (by (try simp only [List.map_toArray, List.map_cons, List.map_nil]); first | done | rfl | (simp only [List.length_drop, List.length_take]; rfl)) ?_; (with_reducible refine (deadboltlaw6_within.calls x8_7 3 t468 _ A11.out).mono ?_); rintro e w' ⟨rfl, ⟨nd, rfl⟩⟩; refine ⟨_, rfl, ?_⟩; obtain ⟨Ao21, co21, eo21⟩ := Kd.R_slice HO467.out; subst eo21; have p469 : 0 ≤ (t468 : Int) := of_decide_eq_true (by first | (with_reducible assumption) | assumption); have q469 : t468 < (y465.length : Int) := of_decide_eq_true (by first | (with_reducible assumption) | assumption); obtain ⟨ad469, e469, hx469_0⟩ := Kd.at_string (Kd.R_reads' HO467.out).2.2 t468 p469 q469; cases e469; replace p469 := eq_true p469; replace q469 := eq_true q469) | ((with_reducible refine gate_callee (f := 15) rfl ?_); refine goesL_ (some 43) rfl rfl Tryd.func15 (by kernel_rfl) rfl #[.int .i64 x8_7, .int .i64 3] rfl (by (try simp only [List.map_toArray, List.map_cons, List.map_nil]); first | done | rfl | (simp only [List.length_drop, List.length_take]; rfl)) ?_; (with_reducible refine (deadboltlaw6_within.calls x8_7 3 t470 _ A16.out).mono ?_); rintro e w' ⟨rfl, ⟨nd, rfl⟩⟩; refine ⟨_, rfl, ?_⟩))
                          go_roundg kj7
                          case measure => have := HK1.out; have := HJ7.out; omega
                          case rel => exact ⟨((x5_1 ++ (rdOf ByteArray.empty y465 t468)) ++ (⟨#[123, 32]⟩ : ByteArray)), (wrap64 (((x5_1 ++ (rdOf ByteArray.empty y465 t468)).size : Int) - 9)), (wrap64 (x7_1 + 1)), (by first | rfl | (simp; done) | (simp [*]; done) | (simp; unfold wrap64; omega)), (by first | rfl | (simp; done) | (simp [*]; done) | (simp; unfold wrap64; omega)), (by first | rfl | (simp; done) | (simp [*]; done) | (simp; unfold wrap64; omega)), H', ⟨by have := HK1.out; have := HJ7.out; omega⟩, ⟨by repeat (first | (with_reducible first | exact HB.out | apply below_alloc | apply pw_below_drewN | apply below_drew1) | exact HB.out)⟩⟩
                        · rw [if_neg c18] at H
                          exact absurd H (by simp)
                      · rw [if_neg c17] at H
                        have c17b0 : (t470 == 2) = false := beq_eq_false_iff_ne.mpr c17
                        have c17b1 : (t470 != 2) = true := bne_iff_ne.mpr c17
                        by_cases c22 : (x5_1 ++ (rdOf ByteArray.empty y465 t468)).size + 2 ≤ 9223372036854775807
                        · rw [if_pos c22] at H
                          have c22b0 := eq_true c22
                          have c22b1 : decide ((x5_1 ++ (rdOf ByteArray.empty y465 t468)).size + 2 ≤ 9223372036854775807) = true := decide_eq_true c22
                          (try (have c22t1 : decide (x5_1.size + (rdOf ByteArray.empty y465 t468).size + 2 ≤ 9223372036854775807) = true := by have h_ := c22b1; simp only [ByteArray.size_append] at h_; exact h_))
                          try have c22b2 : (9223372036854775807 < (x5_1 ++ (rdOf ByteArray.empty y465 t468)).size + 2) = False := eq_false (Nat.not_lt.2 c22)
                          (try (have c22t2 : (9223372036854775807 < x5_1.size + (rdOf ByteArray.empty y465 t468).size + 2) = False := by have h_ := c22b2; simp only [ByteArray.size_append] at h_; exact h_))
                          have H' := Aside0.mk H
                          clear H
                          go_wp2_with (first | ((with_reducible refine gate_dst (N := 32) rfl ?_); (try (refine gate_guard (by rfl) ?_; dsimp only)); refine Kd.R_lit Kd.string _ 9 ?hg (N := 32) ?hd (xs := ([(⟨#[105, 102, 32]⟩ : ByteArray), (⟨#[108, 111, 111, 112, 32]⟩ : ByteArray), (⟨#[105, 102, 32, 123, 32, 125, 32, 101, 108, 115, 101, 32]⟩ : ByteArray)] : List ByteArray)) (inner := [.string (⟨#[105, 102, 32]⟩ : ByteArray), .string (⟨#[108, 111, 111, 112, 32]⟩ : ByteArray), .string (⟨#[105, 102, 32, 123, 32, 125, 32, 101, 108, 115, 101, 32]⟩ : ByteArray)]) (ok := fun _ => True) (okp := fun _ => True) ?hr ?hp (fun _ hk => hk) trivial (Below.refl _ _) (Nat.le_refl _) (by simp) ?_; (case hd => rfl); (case hg => rfl); (case hr => first | (go_simp; done) | (go_simp; rfl)); (case hp => exact (Reps.one (show Kd.M Kd.string _ _ _ (⟨#[105, 102, 32]⟩ : ByteArray) [.string (⟨#[105, 102, 32]⟩ : ByteArray)] from rfl) (Reps.one (show Kd.M Kd.string _ _ _ (⟨#[108, 111, 111, 112, 32]⟩ : ByteArray) [.string (⟨#[108, 111, 111, 112, 32]⟩ : ByteArray)] from rfl) (Reps.one (show Kd.M Kd.string _ _ _ (⟨#[105, 102, 32, 123, 32, 125, 32, 101, 108, 115, 101, 32]⟩ : ByteArray) [.string (⟨#[105, 102, 32, 123, 32, 125, 32, 101, 108, 115, 101, 32]⟩ : ByteArray)] from rfl) (Reps.none _ _))))); intro v466 w23 ho24 hb hg_ hnew_; clear hg_ hnew_; (first | rw [← Ny465.out] at ho24 | (simp only [Int.reduceToNat] at ho24; rw [← Ny465.out] at ho24)); have n0_ := Aside0.mk (Kd.R_lower ho24 (below_size (by repeat (first | (with_reducible first | exact HB.out | apply below_alloc | apply pw_below_drewN | apply below_drew1) | exact HB.out)))); have n1_ := Aside0.mk (below_step (by repeat (first | (with_reducible first | exact HB.out | apply below_alloc | apply pw_below_drewN | apply below_drew1) | exact HB.out)) hb); clear HB; have HO467 := n0_; have HB := n1_; clear n0_ n1_; clear hb ho24) | ((with_reducible refine gate_callee (f := 15) rfl ?_); refine goesL_ (some 34) rfl rfl Tryd.func15 (by kernel_rfl) rfl #[.int .i64 x8_7, .int .i64 3] rfl (by (try simp only [List.map_toArray, List.map_cons, List.map_nil]); first | done | rfl | (simp only [List.length_drop, List.length_take]; rfl)) ?_; (with_reducible refine (deadboltlaw6_within.calls x8_7 3 t468 _ A11.out).mono ?_); rintro e w' ⟨rfl, ⟨nd, rfl⟩⟩; refine ⟨_, rfl, ?_⟩; obtain ⟨Ao25, co25, eo25⟩ := Kd.R_slice HO467.out; subst eo25; have p469 : 0 ≤ (t468 : Int) := of_decide_eq_true (by first | (with_reducible assumption) | assumption); have q469 : t468 < (y465.length : Int) := of_decide_eq_true (by first | (with_reducible assumption) | assumption); obtain ⟨ad469, e469, hx469_0⟩ := Kd.at_string (Kd.R_reads' HO467.out).2.2 t468 p469 q469; cases e469; replace p469 := eq_true p469; replace q469 := eq_true q469) | ((with_reducible refine gate_callee (f := 15) rfl ?_); refine goesL_ (some 43) rfl rfl Tryd.func15 (by kernel_rfl) rfl #[.int .i64 x8_7, .int .i64 3] rfl (by (try simp only [List.map_toArray, List.map_cons, List.map_nil]); first | done | rfl | (simp only [List.length_drop, List.length_take]; rfl)) ?_; (with_reducible refine (deadboltlaw6_within.calls x8_7 3 t470 _ A16.out).mono ?_); rintro e w' ⟨rfl, ⟨nd, rfl⟩⟩; refine ⟨_, rfl, ?_⟩))
                          go_roundg kj7
                          case measure => have := HK1.out; have := HJ7.out; omega
                          case rel => exact ⟨((x5_1 ++ (rdOf ByteArray.empty y465 t468)) ++ (⟨#[123, 32]⟩ : ByteArray)), (((x5_1 ++ (rdOf ByteArray.empty y465 t468)).size : Int)), (wrap64 (x7_1 + 1)), (by first | rfl | (simp; done) | (simp [*]; done) | (simp; unfold wrap64; omega)), (by first | rfl | (simp; done) | (simp [*]; done) | (simp; unfold wrap64; omega)), (by first | rfl | (simp; done) | (simp [*]; done) | (simp; unfold wrap64; omega)), H', ⟨by have := HK1.out; have := HJ7.out; omega⟩, ⟨by repeat (first | (with_reducible first | exact HB.out | apply below_alloc | apply pw_below_drewN | apply below_drew1) | exact HB.out)⟩⟩
                        · rw [if_neg c22] at H
                          exact absurd H (by simp)
                    · rw [if_neg c15] at H
                      have c15b0 : (x7_1 == 20) = false := beq_eq_false_iff_ne.mpr c15
                      have c15b1 : (x7_1 != 20) = true := bne_iff_ne.mpr c15
                      by_cases c26 : (x5_1 ++ (rdOf ByteArray.empty y465 t468)).size + 2 ≤ 9223372036854775807
                      · rw [if_pos c26] at H
                        have c26b0 := eq_true c26
                        have c26b1 : decide ((x5_1 ++ (rdOf ByteArray.empty y465 t468)).size + 2 ≤ 9223372036854775807) = true := decide_eq_true c26
                        (try (have c26t1 : decide (x5_1.size + (rdOf ByteArray.empty y465 t468).size + 2 ≤ 9223372036854775807) = true := by have h_ := c26b1; simp only [ByteArray.size_append] at h_; exact h_))
                        try have c26b2 : (9223372036854775807 < (x5_1 ++ (rdOf ByteArray.empty y465 t468)).size + 2) = False := eq_false (Nat.not_lt.2 c26)
                        (try (have c26t2 : (9223372036854775807 < x5_1.size + (rdOf ByteArray.empty y465 t468).size + 2) = False := by have h_ := c26b2; simp only [ByteArray.size_append] at h_; exact h_))
                        have H' := Aside0.mk H
                        clear H
                        go_wp2_with (first | ((with_reducible refine gate_dst (N := 32) rfl ?_); (try (refine gate_guard (by rfl) ?_; dsimp only)); refine Kd.R_lit Kd.string _ 9 ?hg (N := 32) ?hd (xs := ([(⟨#[105, 102, 32]⟩ : ByteArray), (⟨#[108, 111, 111, 112, 32]⟩ : ByteArray), (⟨#[105, 102, 32, 123, 32, 125, 32, 101, 108, 115, 101, 32]⟩ : ByteArray)] : List ByteArray)) (inner := [.string (⟨#[105, 102, 32]⟩ : ByteArray), .string (⟨#[108, 111, 111, 112, 32]⟩ : ByteArray), .string (⟨#[105, 102, 32, 123, 32, 125, 32, 101, 108, 115, 101, 32]⟩ : ByteArray)]) (ok := fun _ => True) (okp := fun _ => True) ?hr ?hp (fun _ hk => hk) trivial (Below.refl _ _) (Nat.le_refl _) (by simp) ?_; (case hd => rfl); (case hg => rfl); (case hr => first | (go_simp; done) | (go_simp; rfl)); (case hp => exact (Reps.one (show Kd.M Kd.string _ _ _ (⟨#[105, 102, 32]⟩ : ByteArray) [.string (⟨#[105, 102, 32]⟩ : ByteArray)] from rfl) (Reps.one (show Kd.M Kd.string _ _ _ (⟨#[108, 111, 111, 112, 32]⟩ : ByteArray) [.string (⟨#[108, 111, 111, 112, 32]⟩ : ByteArray)] from rfl) (Reps.one (show Kd.M Kd.string _ _ _ (⟨#[105, 102, 32, 123, 32, 125, 32, 101, 108, 115, 101, 32]⟩ : ByteArray) [.string (⟨#[105, 102, 32, 123, 32, 125, 32, 101, 108, 115, 101, 32]⟩ : ByteArray)] from rfl) (Reps.none _ _))))); intro v466 w27 ho28 hb hg_ hnew_; clear hg_ hnew_; (first | rw [← Ny465.out] at ho28 | (simp only [Int.reduceToNat] at ho28; rw [← Ny465.out] at ho28)); have n0_ := Aside0.mk (Kd.R_lower ho28 (below_size (by repeat (first | (with_reducible first | exact HB.out | apply below_alloc | apply pw_below_drewN | apply below_drew1) | exact HB.out)))); have n1_ := Aside0.mk (below_step (by repeat (first | (with_reducible first | exact HB.out | apply below_alloc | apply pw_below_drewN | apply below_drew1) | exact HB.out)) hb); clear HB; have HO467 := n0_; have HB := n1_; clear n0_ n1_; clear hb ho28) | ((with_reducible refine gate_callee (f := 15) rfl ?_); refine goesL_ (some 34) rfl rfl Tryd.func15 (by kernel_rfl) rfl #[.int .i64 x8_7, .int .i64 3] rfl (by (try simp only [List.map_toArray, List.map_cons, List.map_nil]); first | done | rfl | (simp only [List.length_drop, List.length_take]; rfl)) ?_; (with_reducible refine (deadboltlaw6_within.calls x8_7 3 t468 _ A11.out).mono ?_); rintro e w' ⟨rfl, ⟨nd, rfl⟩⟩; refine ⟨_, rfl, ?_⟩; obtain ⟨Ao29, co29, eo29⟩ := Kd.R_slice HO467.out; subst eo29; have p469 : 0 ≤ (t468 : Int) := of_decide_eq_true (by first | (with_reducible assumption) | assumption); have q469 : t468 < (y465.length : Int) := of_decide_eq_true (by first | (with_reducible assumption) | assumption); obtain ⟨ad469, e469, hx469_0⟩ := Kd.at_string (Kd.R_reads' HO467.out).2.2 t468 p469 q469; cases e469; replace p469 := eq_true p469; replace q469 := eq_true q469))
                        go_roundg kj7
                        case measure => have := HK1.out; have := HJ7.out; omega
                        case rel => exact ⟨((x5_1 ++ (rdOf ByteArray.empty y465 t468)) ++ (⟨#[123, 32]⟩ : ByteArray)), (x6_1), (wrap64 (x7_1 + 1)), (by first | rfl | (simp; done) | (simp [*]; done) | (simp; unfold wrap64; omega)), (by first | rfl | (simp; done) | (simp [*]; done) | (simp; unfold wrap64; omega)), (by first | rfl | (simp; done) | (simp [*]; done) | (simp; unfold wrap64; omega)), H', ⟨by have := HK1.out; have := HJ7.out; omega⟩, ⟨by repeat (first | (with_reducible first | exact HB.out | apply below_alloc | apply pw_below_drewN | apply below_drew1) | exact HB.out)⟩⟩
                      · rw [if_neg c26] at H
                        exact absurd H (by simp)
                  · rw [if_neg c14] at H
                    exact absurd H (by simp)
                · rw [if_neg c13] at H
                  exact absurd H (by simp)
              · rw [if_neg c12] at H
                exact absurd H (by simp)
        · rw [if_neg c7] at H
          have c7b0 : decide (x7_1 ≤ t463) = false := decide_eq_false c7
          clear c7
          have H' := Aside0.mk H
          clear H
          go_wp2
          go_loopg [5, 9] k1 (fun kq v5 v9 w' => ∃ (x5_2 : ByteArray) (x9_2 : Int), v5 = .string x5_2 ∧ v9 = .int .i64 x9_2 ∧ Aside0 (deadboltlaw6_ParseDeep.l1 kq t463 x5_2 x6_1 x9_2 = some r) ∧ Aside0 (kq ≤ k1) ∧ Aside0 (Below w.heap.size w w'))
          case atStart => exact ⟨(x5_1), (0), (by first | rfl | (simp; done) | (simp [*]; done) | (simp; unfold wrap64; omega)), (by first | rfl | (simp; done) | (simp [*]; done) | (simp; unfold wrap64; omega)), H', ⟨Nat.le_refl _⟩, ⟨by repeat (first | (with_reducible first | exact HB.out | apply below_alloc | apply pw_below_drewN | apply below_drew1) | exact HB.out)⟩⟩
          case round =>
            clear H'
            try clear c1
            try clear c2
            try clear p2
            try clear c4
            try clear p4
            try clear q4
            try clear hx4
            try clear p6
            try clear c7
            try clear c7b0
            try clear c9
            try clear c9b0
            try clear c10
            try clear c10b0
            try clear c11
            try clear c12
            try clear c12b0
            try clear c13
            try clear c13b0
            try clear c14
            try clear c14b0
            try clear c14b1
            try clear c14b2
            try clear c15
            try clear c15b0
            try clear c15b1
            try clear c17
            try clear c17b0
            try clear c17b1
            try clear c18
            try clear c18b0
            try clear c18b1
            try clear c18b2
            try clear c22
            try clear c22b0
            try clear c22b1
            try clear c22b2
            try clear c26
            try clear c26b0
            try clear c26b1
            try clear c26b2
            try clear hx464_0
            try clear hx469_0
            try clear p2
            try clear p4
            try clear p464
            try clear p469
            try clear q4
            try clear q464
            try clear q469
            obtain ⟨x5_2, x9_2, rfl, rfl, HA, HK2, HB⟩ := hrel
            cases gk with
            | zero => exact absurd HA.out (by simp [deadboltlaw6_ParseDeep.l1])
            | succ k2 =>
              have H := HA.out
              clear HA
              simp only [deadboltlaw6_ParseDeep.l1] at H
              by_cases c30 : x9_2 ≤ t463
              · rw [if_pos c30] at H
                have c30b0 : decide (x9_2 ≤ t463) = true := decide_eq_true c30
                clear c30
                by_cases c31 : x5_2.size + 2 ≤ 9223372036854775807
                · rw [if_pos c31] at H
                  have c31b0 := eq_true c31
                  have c31b1 : decide (x5_2.size + 2 ≤ 9223372036854775807) = true := decide_eq_true c31
                  try have c31b2 : (9223372036854775807 < x5_2.size + 2) = False := eq_false (Nat.not_lt.2 c31)
                  have H' := Aside0.mk H
                  clear H
                  go_wp2
                  go_roundg k2
                  case measure => have := HK1.out; have := HK2.out; omega
                  case rel => exact ⟨(x5_2 ++ (⟨#[125, 32]⟩ : ByteArray)), (wrap64 (x9_2 + 1)), (by first | rfl | (simp; done) | (simp [*]; done) | (simp; unfold wrap64; omega)), (by first | rfl | (simp; done) | (simp [*]; done) | (simp; unfold wrap64; omega)), H', ⟨by have := HK1.out; have := HK2.out; omega⟩, ⟨by repeat (first | (with_reducible first | exact HB.out | apply below_alloc | apply pw_below_drewN | apply below_drew1) | exact HB.out)⟩⟩
                · rw [if_neg c31] at H
                  exact absurd H (by simp)
              · rw [if_neg c30] at H
                have c30b0 : decide (x9_2 ≤ t463) = false := decide_eq_false c30
                clear c30
                replace H := Option.bind_eq_some_iff.mp H
                obtain ⟨⟨t471, t474, t477, t480, t481⟩, A320, H⟩ := H
                replace H : (if t463 ≥ 20 then (if t481 = 8 then (if t480 = x6_1 then (some ((t477.length : Int) == 0)) else (some false)) else (some false)) else (if t481 = 0 then (if t480 = 0 then (some ((t477.length : Int) == 1)) else (some false)) else (some false))) = some r := H
                have A32 := Aside0.mk A320
                clear A320
                by_cases c33 : t463 ≥ 20
                · rw [if_pos c33] at H
                  have c33b0 : decide (20 ≤ t463) = true := decide_eq_true c33
                  clear c33
                  by_cases c34 : t481 = 8
                  · rw [if_pos c34] at H
                    have c34b0 : (t481 == 8) = true := beq_iff_eq.mpr c34
                    have c34b1 : (t481 != 8) = false := bne_eq_false_iff_eq.mpr c34
                    clear c34
                    by_cases c35 : t480 = x6_1
                    · rw [if_pos c35] at H
                      have c35b0 : (t480 == x6_1) = true := beq_iff_eq.mpr c35
                      have c35b1 : (t480 != x6_1) = false := bne_eq_false_iff_eq.mpr c35
                      clear c35
                      obtain rfl := Option.some.inj H
                      go_wp2_with (first | ((with_reducible refine gate_callee (f := 17) rfl ?_); refine goesL_ (some 58) rfl rfl Tryd.func17 (by kernel_rfl) rfl #[.string x5_2] rfl (by (try simp only [List.map_toArray, List.map_cons, List.map_nil]); first | done | rfl | (simp only [List.length_drop, List.length_take]; rfl)) ?_; (with_reducible refine (parse_Parse.calls x5_2 t471 t474 t477 t480 t481 _ A32.out (by first | exact HG.out | exact GL.drewN HG.out _ | exact GL.drewN (GL.drewN HG.out _) _ | exact GL.of_below HG.out (by repeat (first | (with_reducible first | exact HB.out | apply below_alloc | apply pw_below_drewN | apply below_drew1 | refine below_set ?_ GE482.out) | exact HB.out)))).mono ?_); rintro e w36 ⟨v472, v475, v478, rfl, ho0, ho1, ho2, hb⟩; refine ⟨_, rfl, ?_⟩; have n0_ := Aside0.mk (Kd.V_lower (Kd.V_mono (ok' := fun k_ => True) ho0 (fun k_ hk_ => trivial)) (below_size (by repeat (first | (with_reducible first | exact HB.out | apply below_alloc | apply pw_below_drewN | apply below_drew1) | exact HB.out)))); have n1_ := Aside0.mk (Kd.V_lower (Kd.V_mono (ok' := fun k_ => True) ho1 (fun k_ hk_ => trivial)) (below_size (by repeat (first | (with_reducible first | exact HB.out | apply below_alloc | apply pw_below_drewN | apply below_drew1) | exact HB.out)))); have n2_ := Aside0.mk (Kd.V_lower (Kd.V_mono (ok' := fun k_ => True) ho2 (fun k_ hk_ => trivial)) (below_size (by repeat (first | (with_reducible first | exact HB.out | apply below_alloc | apply pw_below_drewN | apply below_drew1) | exact HB.out)))); have n3_ := Aside0.mk (below_step (by repeat (first | (with_reducible first | exact HB.out | apply below_alloc | apply pw_below_drewN | apply below_drew1) | exact HB.out)) hb); clear HB; have HO473 := n0_; have HO476 := n1_; have HO479 := n2_; have HB := n3_; clear n0_ n1_ n2_ n3_; (try clear hb); (try clear hb2); (try clear hk); (try clear hi); (try clear ho0); (try clear ho1); (try clear ho2)) | ((with_reducible refine gate_dst (N := 10) rfl ?_); (try (refine gate_guard (by rfl) ?_; dsimp only)); refine box_event ?hg (N := 10) ?hd (cs := #[.slice none 0 0, .slice none 0 0, .slice none 0 0]) (t := 30) ?hr ?_; (case hd => rfl); (case hg => rfl); (case hr => first | (go_simp; done) | (go_simp; rfl)); intro gb482 hg w37 hbox hb; have n0_ := Aside0.mk (Kd.V_below (Kd.V_elderB (by (with_reducible repeat (first | apply Kd.V_alloc | apply Kd.V_drewN | apply Kd.V_drew)); exact HO473.out) gb482 (Nat.le_of_eq hg.symm)) hb); have n1_ := Aside0.mk (Kd.V_below (Kd.V_elderB (by (with_reducible repeat (first | apply Kd.V_alloc | apply Kd.V_drewN | apply Kd.V_drew)); exact HO476.out) gb482 (Nat.le_of_eq hg.symm)) hb); have n2_ := Aside0.mk (Kd.V_below (Kd.V_elderB (by (with_reducible repeat (first | apply Kd.V_alloc | apply Kd.V_drewN | apply Kd.V_drew)); exact HO479.out) gb482 (Nat.le_of_eq hg.symm)) hb); have n3_ := Aside0.mk (below_step (by repeat (first | (with_reducible first | exact HB.out | apply below_alloc | apply pw_below_drewN | apply below_drew1) | exact HB.out)) hb); have n4_ := Aside0.mk (hbox); have n5_ := Aside0.mk ((by rw [hg]; exact (below_size (by repeat (first | (with_reducible first | exact HB.out | apply below_alloc | apply pw_below_drewN | apply below_drew1) | exact HB.out))) : w.heap.size ≤ gb482)); have n6_ := Aside0.mk ((by rw [hg]; exact (below_size (by repeat (first | (with_reducible first | exact HB.out | apply below_alloc | apply pw_below_drewN | apply below_drew1) | exact HB.out))) : w.heap.size ≤ gb482)); clear HO473; clear HO476; clear HO479; clear HB; have HO473 := n0_; have HO476 := n1_; have HO479 := n2_; have HB := n3_; have BK482 := n4_; have GW482 := n5_; have GE482 := n6_; clear n0_ n1_ n2_ n3_ n4_ n5_ n6_; clear hb hbox hg; obtain ⟨Ao38, co38, eo38⟩ := Kd.V_slice HO473.out; subst eo38; have hcz39_0 : w37.cell? ⟨gb482, 0, none⟩ = some (.slice none 0 0) := (blk_cell BK482.out 0).trans rfl; have hcz39_1 : w37.cell? ⟨gb482, 1, none⟩ = some (.slice none 0 0) := (blk_cell BK482.out 1).trans rfl; have hcz39_2 : w37.cell? ⟨gb482, 2, none⟩ = some (.slice none 0 0) := (blk_cell BK482.out 2).trans rfl; have hfz39_0 := blk_frozen BK482.out 0; have hfz39_1 := blk_frozen BK482.out 1; have hfz39_2 := blk_frozen BK482.out 2; obtain ⟨Ao40, co40, eo40⟩ := Kd.V_slice HO476.out; subst eo40; obtain ⟨Ao41, co41, eo41⟩ := Kd.V_slice HO479.out; subst eo41))
                      go_ret
                      exact ⟨by first | rfl | (simp [errW_none, errW_some] <;> rfl) | (simp [*, errW_none, errW_some] <;> rfl), by repeat (first | (with_reducible first | exact HB.out | apply below_alloc | apply pw_below_drewN | apply below_drew1 | refine below_set ?_ GE482.out) | exact HB.out)⟩
                    · rw [if_neg c35] at H
                      have c35b0 : (t480 == x6_1) = false := beq_eq_false_iff_ne.mpr c35
                      have c35b1 : (t480 != x6_1) = true := bne_iff_ne.mpr c35
                      obtain rfl := Option.some.inj H
                      go_wp2_with (first | ((with_reducible refine gate_callee (f := 17) rfl ?_); refine goesL_ (some 58) rfl rfl Tryd.func17 (by kernel_rfl) rfl #[.string x5_2] rfl (by (try simp only [List.map_toArray, List.map_cons, List.map_nil]); first | done | rfl | (simp only [List.length_drop, List.length_take]; rfl)) ?_; (with_reducible refine (parse_Parse.calls x5_2 t471 t474 t477 t480 t481 _ A32.out (by first | exact HG.out | exact GL.drewN HG.out _ | exact GL.drewN (GL.drewN HG.out _) _ | exact GL.of_below HG.out (by repeat (first | (with_reducible first | exact HB.out | apply below_alloc | apply pw_below_drewN | apply below_drew1 | refine below_set ?_ GE482.out) | exact HB.out)))).mono ?_); rintro e w42 ⟨v472, v475, v478, rfl, ho0, ho1, ho2, hb⟩; refine ⟨_, rfl, ?_⟩; have n0_ := Aside0.mk (Kd.V_lower (Kd.V_mono (ok' := fun k_ => True) ho0 (fun k_ hk_ => trivial)) (below_size (by repeat (first | (with_reducible first | exact HB.out | apply below_alloc | apply pw_below_drewN | apply below_drew1) | exact HB.out)))); have n1_ := Aside0.mk (Kd.V_lower (Kd.V_mono (ok' := fun k_ => True) ho1 (fun k_ hk_ => trivial)) (below_size (by repeat (first | (with_reducible first | exact HB.out | apply below_alloc | apply pw_below_drewN | apply below_drew1) | exact HB.out)))); have n2_ := Aside0.mk (Kd.V_lower (Kd.V_mono (ok' := fun k_ => True) ho2 (fun k_ hk_ => trivial)) (below_size (by repeat (first | (with_reducible first | exact HB.out | apply below_alloc | apply pw_below_drewN | apply below_drew1) | exact HB.out)))); have n3_ := Aside0.mk (below_step (by repeat (first | (with_reducible first | exact HB.out | apply below_alloc | apply pw_below_drewN | apply below_drew1) | exact HB.out)) hb); clear HB; have HO473 := n0_; have HO476 := n1_; have HO479 := n2_; have HB := n3_; clear n0_ n1_ n2_ n3_; (try clear hb); (try clear hb2); (try clear hk); (try clear hi); (try clear ho0); (try clear ho1); (try clear ho2)) | ((with_reducible refine gate_dst (N := 10) rfl ?_); (try (refine gate_guard (by rfl) ?_; dsimp only)); refine box_event ?hg (N := 10) ?hd (cs := #[.slice none 0 0, .slice none 0 0, .slice none 0 0]) (t := 30) ?hr ?_; (case hd => rfl); (case hg => rfl); (case hr => first | (go_simp; done) | (go_simp; rfl)); intro gb482 hg w43 hbox hb; have n0_ := Aside0.mk (Kd.V_below (Kd.V_elderB (by (with_reducible repeat (first | apply Kd.V_alloc | apply Kd.V_drewN | apply Kd.V_drew)); exact HO473.out) gb482 (Nat.le_of_eq hg.symm)) hb); have n1_ := Aside0.mk (Kd.V_below (Kd.V_elderB (by (with_reducible repeat (first | apply Kd.V_alloc | apply Kd.V_drewN | apply Kd.V_drew)); exact HO476.out) gb482 (Nat.le_of_eq hg.symm)) hb); have n2_ := Aside0.mk (Kd.V_below (Kd.V_elderB (by (with_reducible repeat (first | apply Kd.V_alloc | apply Kd.V_drewN | apply Kd.V_drew)); exact HO479.out) gb482 (Nat.le_of_eq hg.symm)) hb); have n3_ := Aside0.mk (below_step (by repeat (first | (with_reducible first | exact HB.out | apply below_alloc | apply pw_below_drewN | apply below_drew1) | exact HB.out)) hb); have n4_ := Aside0.mk (hbox); have n5_ := Aside0.mk ((by rw [hg]; exact (below_size (by repeat (first | (with_reducible first | exact HB.out | apply below_alloc | apply pw_below_drewN | apply below_drew1) | exact HB.out))) : w.heap.size ≤ gb482)); have n6_ := Aside0.mk ((by rw [hg]; exact (below_size (by repeat (first | (with_reducible first | exact HB.out | apply below_alloc | apply pw_below_drewN | apply below_drew1) | exact HB.out))) : w.heap.size ≤ gb482)); clear HO473; clear HO476; clear HO479; clear HB; have HO473 := n0_; have HO476 := n1_; have HO479 := n2_; have HB := n3_; have BK482 := n4_; have GW482 := n5_; have GE482 := n6_; clear n0_ n1_ n2_ n3_ n4_ n5_ n6_; clear hb hbox hg; obtain ⟨Ao44, co44, eo44⟩ := Kd.V_slice HO473.out; subst eo44; have hcz45_0 : w43.cell? ⟨gb482, 0, none⟩ = some (.slice none 0 0) := (blk_cell BK482.out 0).trans rfl; have hcz45_1 : w43.cell? ⟨gb482, 1, none⟩ = some (.slice none 0 0) := (blk_cell BK482.out 1).trans rfl; have hcz45_2 : w43.cell? ⟨gb482, 2, none⟩ = some (.slice none 0 0) := (blk_cell BK482.out 2).trans rfl; have hfz45_0 := blk_frozen BK482.out 0; have hfz45_1 := blk_frozen BK482.out 1; have hfz45_2 := blk_frozen BK482.out 2; obtain ⟨Ao46, co46, eo46⟩ := Kd.V_slice HO476.out; subst eo46; obtain ⟨Ao47, co47, eo47⟩ := Kd.V_slice HO479.out; subst eo47))
                      go_ret
                      exact ⟨by first | rfl | (simp [errW_none, errW_some] <;> rfl) | (simp [*, errW_none, errW_some] <;> rfl), by repeat (first | (with_reducible first | exact HB.out | apply below_alloc | apply pw_below_drewN | apply below_drew1 | refine below_set ?_ GE482.out) | exact HB.out)⟩
                  · rw [if_neg c34] at H
                    have c34b0 : (t481 == 8) = false := beq_eq_false_iff_ne.mpr c34
                    have c34b1 : (t481 != 8) = true := bne_iff_ne.mpr c34
                    obtain rfl := Option.some.inj H
                    go_wp2_with (first | ((with_reducible refine gate_callee (f := 17) rfl ?_); refine goesL_ (some 58) rfl rfl Tryd.func17 (by kernel_rfl) rfl #[.string x5_2] rfl (by (try simp only [List.map_toArray, List.map_cons, List.map_nil]); first | done | rfl | (simp only [List.length_drop, List.length_take]; rfl)) ?_; (with_reducible refine (parse_Parse.calls x5_2 t471 t474 t477 t480 t481 _ A32.out (by first | exact HG.out | exact GL.drewN HG.out _ | exact GL.drewN (GL.drewN HG.out _) _ | exact GL.of_below HG.out (by repeat (first | (with_reducible first | exact HB.out | apply below_alloc | apply pw_below_drewN | apply below_drew1 | refine below_set ?_ GE482.out) | exact HB.out)))).mono ?_); rintro e w48 ⟨v472, v475, v478, rfl, ho0, ho1, ho2, hb⟩; refine ⟨_, rfl, ?_⟩; have n0_ := Aside0.mk (Kd.V_lower (Kd.V_mono (ok' := fun k_ => True) ho0 (fun k_ hk_ => trivial)) (below_size (by repeat (first | (with_reducible first | exact HB.out | apply below_alloc | apply pw_below_drewN | apply below_drew1) | exact HB.out)))); have n1_ := Aside0.mk (Kd.V_lower (Kd.V_mono (ok' := fun k_ => True) ho1 (fun k_ hk_ => trivial)) (below_size (by repeat (first | (with_reducible first | exact HB.out | apply below_alloc | apply pw_below_drewN | apply below_drew1) | exact HB.out)))); have n2_ := Aside0.mk (Kd.V_lower (Kd.V_mono (ok' := fun k_ => True) ho2 (fun k_ hk_ => trivial)) (below_size (by repeat (first | (with_reducible first | exact HB.out | apply below_alloc | apply pw_below_drewN | apply below_drew1) | exact HB.out)))); have n3_ := Aside0.mk (below_step (by repeat (first | (with_reducible first | exact HB.out | apply below_alloc | apply pw_below_drewN | apply below_drew1) | exact HB.out)) hb); clear HB; have HO473 := n0_; have HO476 := n1_; have HO479 := n2_; have HB := n3_; clear n0_ n1_ n2_ n3_; (try clear hb); (try clear hb2); (try clear hk); (try clear hi); (try clear ho0); (try clear ho1); (try clear ho2)) | ((with_reducible refine gate_dst (N := 10) rfl ?_); (try (refine gate_guard (by rfl) ?_; dsimp only)); refine box_event ?hg (N := 10) ?hd (cs := #[.slice none 0 0, .slice none 0 0, .slice none 0 0]) (t := 30) ?hr ?_; (case hd => rfl); (case hg => rfl); (case hr => first | (go_simp; done) | (go_simp; rfl)); intro gb482 hg w49 hbox hb; have n0_ := Aside0.mk (Kd.V_below (Kd.V_elderB (by (with_reducible repeat (first | apply Kd.V_alloc | apply Kd.V_drewN | apply Kd.V_drew)); exact HO473.out) gb482 (Nat.le_of_eq hg.symm)) hb); have n1_ := Aside0.mk (Kd.V_below (Kd.V_elderB (by (with_reducible repeat (first | apply Kd.V_alloc | apply Kd.V_drewN | apply Kd.V_drew)); exact HO476.out) gb482 (Nat.le_of_eq hg.symm)) hb); have n2_ := Aside0.mk (Kd.V_below (Kd.V_elderB (by (with_reducible repeat (first | apply Kd.V_alloc | apply Kd.V_drewN | apply Kd.V_drew)); exact HO479.out) gb482 (Nat.le_of_eq hg.symm)) hb); have n3_ := Aside0.mk (below_step (by repeat (first | (with_reducible first | exact HB.out | apply below_alloc | apply pw_below_drewN | apply below_drew1) | exact HB.out)) hb); have n4_ := Aside0.mk (hbox); have n5_ := Aside0.mk ((by rw [hg]; exact (below_size (by repeat (first | (with_reducible first | exact HB.out | apply below_alloc | apply pw_below_drewN | apply below_drew1) | exact HB.out))) : w.heap.size ≤ gb482)); have n6_ := Aside0.mk ((by rw [hg]; exact (below_size (by repeat (first | (with_reducible first | exact HB.out | apply below_alloc | apply pw_below_drewN | apply below_drew1) | exact HB.out))) : w.heap.size ≤ gb482)); clear HO473; clear HO476; clear HO479; clear HB; have HO473 := n0_; have HO476 := n1_; have HO479 := n2_; have HB := n3_; have BK482 := n4_; have GW482 := n5_; have GE482 := n6_; clear n0_ n1_ n2_ n3_ n4_ n5_ n6_; clear hb hbox hg; obtain ⟨Ao50, co50, eo50⟩ := Kd.V_slice HO473.out; subst eo50; have hcz51_0 : w49.cell? ⟨gb482, 0, none⟩ = some (.slice none 0 0) := (blk_cell BK482.out 0).trans rfl; have hcz51_1 : w49.cell? ⟨gb482, 1, none⟩ = some (.slice none 0 0) := (blk_cell BK482.out 1).trans rfl; have hcz51_2 : w49.cell? ⟨gb482, 2, none⟩ = some (.slice none 0 0) := (blk_cell BK482.out 2).trans rfl; have hfz51_0 := blk_frozen BK482.out 0; have hfz51_1 := blk_frozen BK482.out 1; have hfz51_2 := blk_frozen BK482.out 2; obtain ⟨Ao52, co52, eo52⟩ := Kd.V_slice HO476.out; subst eo52; obtain ⟨Ao53, co53, eo53⟩ := Kd.V_slice HO479.out; subst eo53))
                    go_ret
                    exact ⟨by first | rfl | (simp [errW_none, errW_some] <;> rfl) | (simp [*, errW_none, errW_some] <;> rfl), by repeat (first | (with_reducible first | exact HB.out | apply below_alloc | apply pw_below_drewN | apply below_drew1 | refine below_set ?_ GE482.out) | exact HB.out)⟩
                · rw [if_neg c33] at H
                  have c33b0 : decide (20 ≤ t463) = false := decide_eq_false c33
                  clear c33
                  by_cases c54 : t481 = 0
                  · rw [if_pos c54] at H
                    have c54b0 : (t481 == 0) = true := beq_iff_eq.mpr c54
                    have c54b1 : (t481 != 0) = false := bne_eq_false_iff_eq.mpr c54
                    clear c54
                    by_cases c55 : t480 = 0
                    · rw [if_pos c55] at H
                      have c55b0 : (t480 == 0) = true := beq_iff_eq.mpr c55
                      have c55b1 : (t480 != 0) = false := bne_eq_false_iff_eq.mpr c55
                      clear c55
                      obtain rfl := Option.some.inj H
                      go_wp2_with (first | ((with_reducible refine gate_callee (f := 17) rfl ?_); refine goesL_ (some 58) rfl rfl Tryd.func17 (by kernel_rfl) rfl #[.string x5_2] rfl (by (try simp only [List.map_toArray, List.map_cons, List.map_nil]); first | done | rfl | (simp only [List.length_drop, List.length_take]; rfl)) ?_; (with_reducible refine (parse_Parse.calls x5_2 t471 t474 t477 t480 t481 _ A32.out (by first | exact HG.out | exact GL.drewN HG.out _ | exact GL.drewN (GL.drewN HG.out _) _ | exact GL.of_below HG.out (by repeat (first | (with_reducible first | exact HB.out | apply below_alloc | apply pw_below_drewN | apply below_drew1 | refine below_set ?_ GE482.out) | exact HB.out)))).mono ?_); rintro e w56 ⟨v472, v475, v478, rfl, ho0, ho1, ho2, hb⟩; refine ⟨_, rfl, ?_⟩; have n0_ := Aside0.mk (Kd.V_lower (Kd.V_mono (ok' := fun k_ => True) ho0 (fun k_ hk_ => trivial)) (below_size (by repeat (first | (with_reducible first | exact HB.out | apply below_alloc | apply pw_below_drewN | apply below_drew1) | exact HB.out)))); have n1_ := Aside0.mk (Kd.V_lower (Kd.V_mono (ok' := fun k_ => True) ho1 (fun k_ hk_ => trivial)) (below_size (by repeat (first | (with_reducible first | exact HB.out | apply below_alloc | apply pw_below_drewN | apply below_drew1) | exact HB.out)))); have n2_ := Aside0.mk (Kd.V_lower (Kd.V_mono (ok' := fun k_ => True) ho2 (fun k_ hk_ => trivial)) (below_size (by repeat (first | (with_reducible first | exact HB.out | apply below_alloc | apply pw_below_drewN | apply below_drew1) | exact HB.out)))); have n3_ := Aside0.mk (below_step (by repeat (first | (with_reducible first | exact HB.out | apply below_alloc | apply pw_below_drewN | apply below_drew1) | exact HB.out)) hb); clear HB; have HO473 := n0_; have HO476 := n1_; have HO479 := n2_; have HB := n3_; clear n0_ n1_ n2_ n3_; (try clear hb); (try clear hb2); (try clear hk); (try clear hi); (try clear ho0); (try clear ho1); (try clear ho2)) | ((with_reducible refine gate_dst (N := 10) rfl ?_); (try (refine gate_guard (by rfl) ?_; dsimp only)); refine box_event ?hg (N := 10) ?hd (cs := #[.slice none 0 0, .slice none 0 0, .slice none 0 0]) (t := 30) ?hr ?_; (case hd => rfl); (case hg => rfl); (case hr => first | (go_simp; done) | (go_simp; rfl)); intro gb482 hg w57 hbox hb; have n0_ := Aside0.mk (Kd.V_below (Kd.V_elderB (by (with_reducible repeat (first | apply Kd.V_alloc | apply Kd.V_drewN | apply Kd.V_drew)); exact HO473.out) gb482 (Nat.le_of_eq hg.symm)) hb); have n1_ := Aside0.mk (Kd.V_below (Kd.V_elderB (by (with_reducible repeat (first | apply Kd.V_alloc | apply Kd.V_drewN | apply Kd.V_drew)); exact HO476.out) gb482 (Nat.le_of_eq hg.symm)) hb); have n2_ := Aside0.mk (Kd.V_below (Kd.V_elderB (by (with_reducible repeat (first | apply Kd.V_alloc | apply Kd.V_drewN | apply Kd.V_drew)); exact HO479.out) gb482 (Nat.le_of_eq hg.symm)) hb); have n3_ := Aside0.mk (below_step (by repeat (first | (with_reducible first | exact HB.out | apply below_alloc | apply pw_below_drewN | apply below_drew1) | exact HB.out)) hb); have n4_ := Aside0.mk (hbox); have n5_ := Aside0.mk ((by rw [hg]; exact (below_size (by repeat (first | (with_reducible first | exact HB.out | apply below_alloc | apply pw_below_drewN | apply below_drew1) | exact HB.out))) : w.heap.size ≤ gb482)); have n6_ := Aside0.mk ((by rw [hg]; exact (below_size (by repeat (first | (with_reducible first | exact HB.out | apply below_alloc | apply pw_below_drewN | apply below_drew1) | exact HB.out))) : w.heap.size ≤ gb482)); clear HO473; clear HO476; clear HO479; clear HB; have HO473 := n0_; have HO476 := n1_; have HO479 := n2_; have HB := n3_; have BK482 := n4_; have GW482 := n5_; have GE482 := n6_; clear n0_ n1_ n2_ n3_ n4_ n5_ n6_; clear hb hbox hg; obtain ⟨Ao58, co58, eo58⟩ := Kd.V_slice HO473.out; subst eo58; have hcz59_0 : w57.cell? ⟨gb482, 0, none⟩ = some (.slice none 0 0) := (blk_cell BK482.out 0).trans rfl; have hcz59_1 : w57.cell? ⟨gb482, 1, none⟩ = some (.slice none 0 0) := (blk_cell BK482.out 1).trans rfl; have hcz59_2 : w57.cell? ⟨gb482, 2, none⟩ = some (.slice none 0 0) := (blk_cell BK482.out 2).trans rfl; have hfz59_0 := blk_frozen BK482.out 0; have hfz59_1 := blk_frozen BK482.out 1; have hfz59_2 := blk_frozen BK482.out 2; obtain ⟨Ao60, co60, eo60⟩ := Kd.V_slice HO476.out; subst eo60; obtain ⟨Ao61, co61, eo61⟩ := Kd.V_slice HO479.out; subst eo61))
                      go_ret
                      exact ⟨by first | rfl | (simp [errW_none, errW_some] <;> rfl) | (simp [*, errW_none, errW_some] <;> rfl), by repeat (first | (with_reducible first | exact HB.out | apply below_alloc | apply pw_below_drewN | apply below_drew1 | refine below_set ?_ GE482.out) | exact HB.out)⟩
                    · rw [if_neg c55] at H
                      have c55b0 : (t480 == 0) = false := beq_eq_false_iff_ne.mpr c55
                      have c55b1 : (t480 != 0) = true := bne_iff_ne.mpr c55
                      obtain rfl := Option.some.inj H
                      go_wp2_with (first | ((with_reducible refine gate_callee (f := 17) rfl ?_); refine goesL_ (some 58) rfl rfl Tryd.func17 (by kernel_rfl) rfl #[.string x5_2] rfl (by (try simp only [List.map_toArray, List.map_cons, List.map_nil]); first | done | rfl | (simp only [List.length_drop, List.length_take]; rfl)) ?_; (with_reducible refine (parse_Parse.calls x5_2 t471 t474 t477 t480 t481 _ A32.out (by first | exact HG.out | exact GL.drewN HG.out _ | exact GL.drewN (GL.drewN HG.out _) _ | exact GL.of_below HG.out (by repeat (first | (with_reducible first | exact HB.out | apply below_alloc | apply pw_below_drewN | apply below_drew1 | refine below_set ?_ GE482.out) | exact HB.out)))).mono ?_); rintro e w62 ⟨v472, v475, v478, rfl, ho0, ho1, ho2, hb⟩; refine ⟨_, rfl, ?_⟩; have n0_ := Aside0.mk (Kd.V_lower (Kd.V_mono (ok' := fun k_ => True) ho0 (fun k_ hk_ => trivial)) (below_size (by repeat (first | (with_reducible first | exact HB.out | apply below_alloc | apply pw_below_drewN | apply below_drew1) | exact HB.out)))); have n1_ := Aside0.mk (Kd.V_lower (Kd.V_mono (ok' := fun k_ => True) ho1 (fun k_ hk_ => trivial)) (below_size (by repeat (first | (with_reducible first | exact HB.out | apply below_alloc | apply pw_below_drewN | apply below_drew1) | exact HB.out)))); have n2_ := Aside0.mk (Kd.V_lower (Kd.V_mono (ok' := fun k_ => True) ho2 (fun k_ hk_ => trivial)) (below_size (by repeat (first | (with_reducible first | exact HB.out | apply below_alloc | apply pw_below_drewN | apply below_drew1) | exact HB.out)))); have n3_ := Aside0.mk (below_step (by repeat (first | (with_reducible first | exact HB.out | apply below_alloc | apply pw_below_drewN | apply below_drew1) | exact HB.out)) hb); clear HB; have HO473 := n0_; have HO476 := n1_; have HO479 := n2_; have HB := n3_; clear n0_ n1_ n2_ n3_; (try clear hb); (try clear hb2); (try clear hk); (try clear hi); (try clear ho0); (try clear ho1); (try clear ho2)) | ((with_reducible refine gate_dst (N := 10) rfl ?_); (try (refine gate_guard (by rfl) ?_; dsimp only)); refine box_event ?hg (N := 10) ?hd (cs := #[.slice none 0 0, .slice none 0 0, .slice none 0 0]) (t := 30) ?hr ?_; (case hd => rfl); (case hg => rfl); (case hr => first | (go_simp; done) | (go_simp; rfl)); intro gb482 hg w63 hbox hb; have n0_ := Aside0.mk (Kd.V_below (Kd.V_elderB (by (with_reducible repeat (first | apply Kd.V_alloc | apply Kd.V_drewN | apply Kd.V_drew)); exact HO473.out) gb482 (Nat.le_of_eq hg.symm)) hb); have n1_ := Aside0.mk (Kd.V_below (Kd.V_elderB (by (with_reducible repeat (first | apply Kd.V_alloc | apply Kd.V_drewN | apply Kd.V_drew)); exact HO476.out) gb482 (Nat.le_of_eq hg.symm)) hb); have n2_ := Aside0.mk (Kd.V_below (Kd.V_elderB (by (with_reducible repeat (first | apply Kd.V_alloc | apply Kd.V_drewN | apply Kd.V_drew)); exact HO479.out) gb482 (Nat.le_of_eq hg.symm)) hb); have n3_ := Aside0.mk (below_step (by repeat (first | (with_reducible first | exact HB.out | apply below_alloc | apply pw_below_drewN | apply below_drew1) | exact HB.out)) hb); have n4_ := Aside0.mk (hbox); have n5_ := Aside0.mk ((by rw [hg]; exact (below_size (by repeat (first | (with_reducible first | exact HB.out | apply below_alloc | apply pw_below_drewN | apply below_drew1) | exact HB.out))) : w.heap.size ≤ gb482)); have n6_ := Aside0.mk ((by rw [hg]; exact (below_size (by repeat (first | (with_reducible first | exact HB.out | apply below_alloc | apply pw_below_drewN | apply below_drew1) | exact HB.out))) : w.heap.size ≤ gb482)); clear HO473; clear HO476; clear HO479; clear HB; have HO473 := n0_; have HO476 := n1_; have HO479 := n2_; have HB := n3_; have BK482 := n4_; have GW482 := n5_; have GE482 := n6_; clear n0_ n1_ n2_ n3_ n4_ n5_ n6_; clear hb hbox hg; obtain ⟨Ao64, co64, eo64⟩ := Kd.V_slice HO473.out; subst eo64; have hcz65_0 : w63.cell? ⟨gb482, 0, none⟩ = some (.slice none 0 0) := (blk_cell BK482.out 0).trans rfl; have hcz65_1 : w63.cell? ⟨gb482, 1, none⟩ = some (.slice none 0 0) := (blk_cell BK482.out 1).trans rfl; have hcz65_2 : w63.cell? ⟨gb482, 2, none⟩ = some (.slice none 0 0) := (blk_cell BK482.out 2).trans rfl; have hfz65_0 := blk_frozen BK482.out 0; have hfz65_1 := blk_frozen BK482.out 1; have hfz65_2 := blk_frozen BK482.out 2; obtain ⟨Ao66, co66, eo66⟩ := Kd.V_slice HO476.out; subst eo66; obtain ⟨Ao67, co67, eo67⟩ := Kd.V_slice HO479.out; subst eo67))
                      go_ret
                      exact ⟨by first | rfl | (simp [errW_none, errW_some] <;> rfl) | (simp [*, errW_none, errW_some] <;> rfl), by repeat (first | (with_reducible first | exact HB.out | apply below_alloc | apply pw_below_drewN | apply below_drew1 | refine below_set ?_ GE482.out) | exact HB.out)⟩
                  · rw [if_neg c54] at H
                    have c54b0 : (t481 == 0) = false := beq_eq_false_iff_ne.mpr c54
                    have c54b1 : (t481 != 0) = true := bne_iff_ne.mpr c54
                    obtain rfl := Option.some.inj H
                    go_wp2_with (first | ((with_reducible refine gate_callee (f := 17) rfl ?_); refine goesL_ (some 58) rfl rfl Tryd.func17 (by kernel_rfl) rfl #[.string x5_2] rfl (by (try simp only [List.map_toArray, List.map_cons, List.map_nil]); first | done | rfl | (simp only [List.length_drop, List.length_take]; rfl)) ?_; (with_reducible refine (parse_Parse.calls x5_2 t471 t474 t477 t480 t481 _ A32.out (by first | exact HG.out | exact GL.drewN HG.out _ | exact GL.drewN (GL.drewN HG.out _) _ | exact GL.of_below HG.out (by repeat (first | (with_reducible first | exact HB.out | apply below_alloc | apply pw_below_drewN | apply below_drew1 | refine below_set ?_ GE482.out) | exact HB.out)))).mono ?_); rintro e w68 ⟨v472, v475, v478, rfl, ho0, ho1, ho2, hb⟩; refine ⟨_, rfl, ?_⟩; have n0_ := Aside0.mk (Kd.V_lower (Kd.V_mono (ok' := fun k_ => True) ho0 (fun k_ hk_ => trivial)) (below_size (by repeat (first | (with_reducible first | exact HB.out | apply below_alloc | apply pw_below_drewN | apply below_drew1) | exact HB.out)))); have n1_ := Aside0.mk (Kd.V_lower (Kd.V_mono (ok' := fun k_ => True) ho1 (fun k_ hk_ => trivial)) (below_size (by repeat (first | (with_reducible first | exact HB.out | apply below_alloc | apply pw_below_drewN | apply below_drew1) | exact HB.out)))); have n2_ := Aside0.mk (Kd.V_lower (Kd.V_mono (ok' := fun k_ => True) ho2 (fun k_ hk_ => trivial)) (below_size (by repeat (first | (with_reducible first | exact HB.out | apply below_alloc | apply pw_below_drewN | apply below_drew1) | exact HB.out)))); have n3_ := Aside0.mk (below_step (by repeat (first | (with_reducible first | exact HB.out | apply below_alloc | apply pw_below_drewN | apply below_drew1) | exact HB.out)) hb); clear HB; have HO473 := n0_; have HO476 := n1_; have HO479 := n2_; have HB := n3_; clear n0_ n1_ n2_ n3_; (try clear hb); (try clear hb2); (try clear hk); (try clear hi); (try clear ho0); (try clear ho1); (try clear ho2)) | ((with_reducible refine gate_dst (N := 10) rfl ?_); (try (refine gate_guard (by rfl) ?_; dsimp only)); refine box_event ?hg (N := 10) ?hd (cs := #[.slice none 0 0, .slice none 0 0, .slice none 0 0]) (t := 30) ?hr ?_; (case hd => rfl); (case hg => rfl); (case hr => first | (go_simp; done) | (go_simp; rfl)); intro gb482 hg w69 hbox hb; have n0_ := Aside0.mk (Kd.V_below (Kd.V_elderB (by (with_reducible repeat (first | apply Kd.V_alloc | apply Kd.V_drewN | apply Kd.V_drew)); exact HO473.out) gb482 (Nat.le_of_eq hg.symm)) hb); have n1_ := Aside0.mk (Kd.V_below (Kd.V_elderB (by (with_reducible repeat (first | apply Kd.V_alloc | apply Kd.V_drewN | apply Kd.V_drew)); exact HO476.out) gb482 (Nat.le_of_eq hg.symm)) hb); have n2_ := Aside0.mk (Kd.V_below (Kd.V_elderB (by (with_reducible repeat (first | apply Kd.V_alloc | apply Kd.V_drewN | apply Kd.V_drew)); exact HO479.out) gb482 (Nat.le_of_eq hg.symm)) hb); have n3_ := Aside0.mk (below_step (by repeat (first | (with_reducible first | exact HB.out | apply below_alloc | apply pw_below_drewN | apply below_drew1) | exact HB.out)) hb); have n4_ := Aside0.mk (hbox); have n5_ := Aside0.mk ((by rw [hg]; exact (below_size (by repeat (first | (with_reducible first | exact HB.out | apply below_alloc | apply pw_below_drewN | apply below_drew1) | exact HB.out))) : w.heap.size ≤ gb482)); have n6_ := Aside0.mk ((by rw [hg]; exact (below_size (by repeat (first | (with_reducible first | exact HB.out | apply below_alloc | apply pw_below_drewN | apply below_drew1) | exact HB.out))) : w.heap.size ≤ gb482)); clear HO473; clear HO476; clear HO479; clear HB; have HO473 := n0_; have HO476 := n1_; have HO479 := n2_; have HB := n3_; have BK482 := n4_; have GW482 := n5_; have GE482 := n6_; clear n0_ n1_ n2_ n3_ n4_ n5_ n6_; clear hb hbox hg; obtain ⟨Ao70, co70, eo70⟩ := Kd.V_slice HO473.out; subst eo70; have hcz71_0 : w69.cell? ⟨gb482, 0, none⟩ = some (.slice none 0 0) := (blk_cell BK482.out 0).trans rfl; have hcz71_1 : w69.cell? ⟨gb482, 1, none⟩ = some (.slice none 0 0) := (blk_cell BK482.out 1).trans rfl; have hcz71_2 : w69.cell? ⟨gb482, 2, none⟩ = some (.slice none 0 0) := (blk_cell BK482.out 2).trans rfl; have hfz71_0 := blk_frozen BK482.out 0; have hfz71_1 := blk_frozen BK482.out 1; have hfz71_2 := blk_frozen BK482.out 2; obtain ⟨Ao72, co72, eo72⟩ := Kd.V_slice HO476.out; subst eo72; obtain ⟨Ao73, co73, eo73⟩ := Kd.V_slice HO479.out; subst eo73))
                    go_ret
                    exact ⟨by first | rfl | (simp [errW_none, errW_some] <;> rfl) | (simp [*, errW_none, errW_some] <;> rfl), by repeat (first | (with_reducible first | exact HB.out | apply below_alloc | apply pw_below_drewN | apply below_drew1 | refine below_set ?_ GE482.out) | exact HB.out)⟩
  · replace c4 := Bool.eq_false_iff.mpr c4
    subst c4
    have H1 : (some false) = some r := by rw [if_neg (show ¬ (false = true) by decide)] at H; exact H
    clear H
    have H := H1
    clear H1
    obtain rfl := Option.some.inj H
    go_enter Tryd.func4, Tryd.ntmps4
    go_wp2_with (first | ((with_reducible refine gate_callee (f := 11) rfl ?_); refine goesL_ (some 13) rfl rfl Tryd.func11 (by kernel_rfl) rfl #[] rfl (by (try simp only [List.map_toArray, List.map_cons, List.map_nil]); first | done | rfl | (simp only [List.length_drop, List.length_take]; rfl)) ?_; (with_reducible refine (deadboltlaw6_known.calls  false _ A3.out (by first | exact HG.out | exact GL.drewN HG.out _ | exact GL.drewN (GL.drewN HG.out _) _ | exact GL.of_below HG.out (by repeat (first | (with_reducible first | exact HB.out | apply below_alloc | apply pw_below_drewN | apply below_drew1 | refine below_set ?_ GE482.out) | exact HB.out)))).mono ?_); rintro e w74 ⟨rfl, hb⟩; refine ⟨_, rfl, ?_⟩; have n0_ := Aside0.mk (below_step (by repeat (first | (with_reducible first | exact HB.out | apply below_alloc | apply pw_below_drewN | apply below_drew1) | exact HB.out)) hb); clear HB; have HB := n0_; clear n0_; (try clear hb); (try clear hb2); (try clear hk); (try clear hi)))
    go_ret
    exact ⟨by first | rfl | (simp [errW_none, errW_some] <;> rfl) | (simp [*, errW_none, errW_some] <;> rfl), by repeat (first | (with_reducible first | exact HB.out | apply below_alloc | apply pw_below_drewN | apply below_drew1) | exact HB.out)⟩

/-- THE ONE PURE STATEMENT of deadboltlaw6_ParseDeep: yours. -/
def deadboltlaw6_ParseDeep.Pure : Prop := ∀ (a0 : Int) (l1 : List Int), (Lit.int .i64 a0).wf = true → l1.length ≤ maxLen → l1.length * 8 ≤ 140737488351232 → (∀ x ∈ l1, (Lit.int .i64 x).wf = true) → ∃ k, deadboltlaw6_ParseDeep.f k a0 l1 = some true
theorem deadboltlaw6_ParseDeep.walk (P : deadboltlaw6_ParseDeep.Pure) (a0 : Int) (a1 : Option Addr) (len1 cap1 : Nat) (z1 : List Int) (w : World) (w0 : (Lit.int .i64 a0).wf = true) (w1 : (a1 = none ∧ len1 = 0 ∧ cap1 = 0 ∧ z1 = []) ∨ ∃ x, a1 = some x ∧ len1 ≤ cap1 ∧ cap1 ≤ maxLen ∧ z1.length = cap1 ∧ (∀ i, i < z1.length → w.cell? (x.add i) = some (.int .i64 (z1.getD i 0))) ∧ ∀ n ∈ z1, (Lit.int .i64 n).wf = true) (y1 : len1 * 8 ≤ 140737488351232) (hG : GL w) :
    Calls Tryd.prog 4 #[.int .i64 a0, .slice a1 len1 cap1] w fun e w' => e = .returned (.bool true) ∧ Below w.heap.size w w' := by
  obtain ⟨l1, rfl, hr1, hm1, hw1, hc1⟩ := ReadsInt.ofRowC w1
  obtain ⟨k, h⟩ := P a0 l1 w0 hm1 y1 hw1
  refine (deadboltlaw6_ParseDeep.calls k a0 _ _ l1 true w (Kd.C_of_reads (d := (0 : Int)) (h1 := fun _ => rfl) hr1) hc1 h hG).mono ?_
  rintro e w' ⟨rfl, hd⟩
  exact ⟨rfl, hd⟩

end Go.Proofs.YtkmafndljelopaaDoor.Q
