-- written by wip/xprint.py (over the kit's print.py) out of the translation. Not trusted: Lean checks it.
import Derived.Test.YtcabcedlnikbaaaDoorQ0
import Derived.Test.YtcabcedlnikbaaaDoorQ2
import Derived.Test.YtcabcedlnikbaaaDoorQ4
import Derived.Test.YtcabcedlnikbaaaDoorLexTok
namespace Go.Proofs.YtcabcedlnikbaaaDoor.Q
open Go.RowKit Go.Proofs.YtcabcedlnikbaaaDoorW.PrintWords Go.Proofs.YtcabcedlnikbaaaDoorW.PrintLast Go.Proofs.YtcabcedlnikbaaaDoorW.PrintMore
attribute [local go_sem] max2_int min2_int max_two min_two max_three min_three max_four min_four   -- for this text's walks alone
set_option linter.unusedVariables false
set_option linter.unusedSimpArgs false

/-! ### deadboltlaw5_LexFirst: function 8 -/
def deadboltlaw5_LexFirst.l0 : Nat → List Int → Int → ByteArray → ByteArray → Int → Option (Bool)
  | 0, _, _, _, _, _ => none
  | k + 1, x0, x1, x2, x7, x8 => if x8 < (x0.length : Int) then (if x8 < 40 then ((some (([(⟨#[123]⟩ : ByteArray), (⟨#[125]⟩ : ByteArray), (⟨#[120, 32]⟩ : ByteArray), (⟨#[102, 117, 110, 99, 32]⟩ : ByteArray), (⟨#[32]⟩ : ByteArray)] : List ByteArray) : List ByteArray)).bind fun y281 => (if 0 ≤ x8 then ((deadboltlaw5_within.f (rd x0 x8) 5).bind fun t285 => (if 0 ≤ t285 then (if t285 < (y281.length : Int) then (if x7.size + (rdOf ByteArray.empty y281 t285).size ≤ 9223372036854775807 then (deadboltlaw5_LexFirst.l0 k x0 x1 x2 (x7 ++ (rdOf ByteArray.empty y281 t285)) (wrap64 (x8 + 1))) else (none)) else (none)) else (none))) else (none))) else ((some (([(⟨#[33]⟩ : ByteArray), (⟨#[65]⟩ : ByteArray), (⟨#[45]⟩ : ByteArray), (⟨#[13]⟩ : ByteArray), (⟨#[0]⟩ : ByteArray), (⟨#[59]⟩ : ByteArray), (⟨#[195, 169]⟩ : ByteArray), (⟨#[95]⟩ : ByteArray)] : List ByteArray) : List ByteArray)).bind fun y287 => ((deadboltlaw5_within.f x1 8).bind fun t290 => (if 0 ≤ t290 then (if t290 < (y287.length : Int) then (if x7.size + 1 ≤ 9223372036854775807 then (if (x7 ++ (⟨#[32]⟩ : ByteArray)).size + (rdOf ByteArray.empty y287 t290).size ≤ 9223372036854775807 then (if ((x7 ++ (⟨#[32]⟩ : ByteArray)) ++ (rdOf ByteArray.empty y287 t290)).size + x2.size ≤ 9223372036854775807 then ((lex_Tokens.f (((x7 ++ (⟨#[32]⟩ : ByteArray)) ++ (rdOf ByteArray.empty y287 t290)) ++ x2)).bind fun bt292 => (if bt292.2.2 = 6 then (if bt292.2.1 = (wrap64 ((x7.size : Int) + 1)) then (some ((bt292.1.length : Int) == 0)) else (some false)) else (some false))) else (none)) else (none)) else (none)) else (none)) else (none))))) else ((some (([(⟨#[33]⟩ : ByteArray), (⟨#[65]⟩ : ByteArray), (⟨#[45]⟩ : ByteArray), (⟨#[13]⟩ : ByteArray), (⟨#[0]⟩ : ByteArray), (⟨#[59]⟩ : ByteArray), (⟨#[195, 169]⟩ : ByteArray), (⟨#[95]⟩ : ByteArray)] : List ByteArray) : List ByteArray)).bind fun y297 => ((deadboltlaw5_within.f x1 8).bind fun t300 => (if 0 ≤ t300 then (if t300 < (y297.length : Int) then (if x7.size + 1 ≤ 9223372036854775807 then (if (x7 ++ (⟨#[32]⟩ : ByteArray)).size + (rdOf ByteArray.empty y297 t300).size ≤ 9223372036854775807 then (if ((x7 ++ (⟨#[32]⟩ : ByteArray)) ++ (rdOf ByteArray.empty y297 t300)).size + x2.size ≤ 9223372036854775807 then ((lex_Tokens.f (((x7 ++ (⟨#[32]⟩ : ByteArray)) ++ (rdOf ByteArray.empty y297 t300)) ++ x2)).bind fun bt302 => (if bt302.2.2 = 6 then (if bt302.2.1 = (wrap64 ((x7.size : Int) + 1)) then (some ((bt302.1.length : Int) == 0)) else (some false)) else (some false))) else (none)) else (none)) else (none)) else (none)) else (none))))
def deadboltlaw5_LexFirst.f (k : Nat) (l0 : List Int) (a1 : Int) (a2 : ByteArray) : Option (Bool) := (deadboltlaw5_known.f).bind fun t280 => (if t280 = true then (if (a2.size : Int) > 200 then (some true) else (deadboltlaw5_LexFirst.l0 k l0 a1 a2 (⟨#[]⟩ : ByteArray) 0)) else (some false))
theorem deadboltlaw5_LexFirst.mono_l : ∀ k, (∀ y0 y1 y2 y3 y4, LeO (deadboltlaw5_LexFirst.l0 k y0 y1 y2 y3 y4) (deadboltlaw5_LexFirst.l0 (k + 1) y0 y1 y2 y3 y4))
  | 0 => fun _ _ _ _ _ r h => by simp [deadboltlaw5_LexFirst.l0] at h
  | k + 1 => by
    have ih0 := deadboltlaw5_LexFirst.mono_l k
    · intro y0 y1 y2 y3 y4
      unfold deadboltlaw5_LexFirst.l0
      repeat' first
      | (with_reducible exact ih0 _ _ _ _ _)
      | (with_reducible exact LeO.refl _)
      | (with_reducible exact LeO.none _)
      | (with_reducible refine LeO.ite ?_ ?_)
      | (with_reducible refine LeO.bind ?_ (fun _ => ?_))
      | exact ih0 _ _ _ _ _
      | exact LeO.none _
      | refine LeO.ite ?_ ?_
      | refine LeO.bind ?_ (fun _ => ?_)
theorem deadboltlaw5_LexFirst.mono : ∀ a0 a1 a2 k, LeO (deadboltlaw5_LexFirst.f k a0 a1 a2) (deadboltlaw5_LexFirst.f (k + 1) a0 a1 a2) := by
  intro a0 a1 a2 k
  have ih0 := deadboltlaw5_LexFirst.mono_l k
  unfold deadboltlaw5_LexFirst.f
  repeat' first
      | (with_reducible exact ih0 _ _ _ _ _)
      | (with_reducible exact LeO.refl _)
      | (with_reducible exact LeO.none _)
      | (with_reducible refine LeO.ite ?_ ?_)
      | (with_reducible refine LeO.bind ?_ (fun _ => ?_))
      | exact ih0 _ _ _ _ _
      | exact LeO.none _
      | refine LeO.ite ?_ ?_
      | refine LeO.bind ?_ (fun _ => ?_)
set_option maxHeartbeats 8000000 in
set_option maxRecDepth 100000 in
theorem deadboltlaw5_LexFirst.calls (k : Nat) (A0 : Option Addr) (c0 : Nat) (l0 : List Int) (a1 : Int) (a2 : ByteArray) (r : Bool) (w : World) (hr0 : Kd.C (Kd.int .i64) w A0 l0.length l0) (hc0 : l0.length ≤ c0) (h : deadboltlaw5_LexFirst.f k l0 a1 a2 = some r) (hG : GL w) :
    Calls Tryd.prog 8 #[.slice A0 l0.length c0, .int .i64 a1, .string a2] w fun e w' => e = .returned (.bool r) ∧ Below w.heap.size w w' := by
  have HG := Aside0.mk hG
  clear hG
  have HR0 := Aside0.mk hr0
  have HC0 := Aside0.mk hc0
  clear hr0 hc0
  have HB := Aside0.mk (Below.refl w.heap.size w)
  have H : ((deadboltlaw5_known.f).bind fun t280 => (if t280 = true then (if (a2.size : Int) > 200 then (some true) else (deadboltlaw5_LexFirst.l0 k l0 a1 a2 (⟨#[]⟩ : ByteArray) 0)) else (some false))) = some r := h
  clear h
  replace H := Option.bind_eq_some_iff.mp H
  obtain ⟨t280, A40, H⟩ := H
  replace H : (if t280 = true then (if (a2.size : Int) > 200 then (some true) else (deadboltlaw5_LexFirst.l0 k l0 a1 a2 (⟨#[]⟩ : ByteArray) 0)) else (some false)) = some r := H
  have A4 := Aside0.mk A40
  clear A40
  by_cases c5 : t280 = true
  · subst c5
    have H1 : (if (a2.size : Int) > 200 then (some true) else (deadboltlaw5_LexFirst.l0 k l0 a1 a2 (⟨#[]⟩ : ByteArray) 0)) = some r := by rw [if_pos rfl] at H; exact H
    clear H
    have H := H1
    clear H1
    by_cases c6 : (a2.size : Int) > 200
    · rw [if_pos c6] at H
      have c6b0 : decide (200 < (a2.size : Int)) = true := decide_eq_true c6
      have c6b1 : decide (200 < a2.size) = true := decide_eq_true (by omega)
      clear c6
      obtain rfl := Option.some.inj H
      go_enter Tryd.func8, Tryd.ntmps8
      go_wp2_with (first | ((with_reducible refine gate_callee (f := 9) rfl ?_); refine goesL_ (some 13) rfl rfl Tryd.func9 (by kernel_rfl) rfl #[] rfl (by (try simp only [List.map_toArray, List.map_cons, List.map_nil]); first | done | rfl | (simp only [List.length_drop, List.length_take]; rfl)) ?_; (with_reducible refine (deadboltlaw5_known.calls  true _ A4.out (by first | exact HG.out | exact GL.drewN HG.out _ | exact GL.drewN (GL.drewN HG.out _) _ | exact GL.of_below HG.out (by repeat (first | (with_reducible first | exact HB.out | apply below_alloc | apply pw_below_drewN | apply below_drew1) | exact HB.out)))).mono ?_); rintro e w7 ⟨rfl, hb⟩; refine ⟨_, rfl, ?_⟩; have n0_ := Aside0.mk (below_step (by repeat (first | (with_reducible first | exact HB.out | apply below_alloc | apply pw_below_drewN | apply below_drew1) | exact HB.out)) hb); clear HB; have HB := n0_; clear n0_; (try clear hb); (try clear hb2); (try clear hk); (try clear hi)))
      go_ret
      exact ⟨by first | rfl | (simp [errW_none, errW_some] <;> rfl) | (simp [*, errW_none, errW_some] <;> rfl), by repeat (first | (with_reducible first | exact HB.out | apply below_alloc | apply pw_below_drewN | apply below_drew1) | exact HB.out)⟩
    · rw [if_neg c6] at H
      have c6b0 : decide (200 < (a2.size : Int)) = false := decide_eq_false c6
      have c6b1 : decide (200 < a2.size) = false := decide_eq_false (by omega)
      clear c6
      have H' := Aside0.mk H
      clear H
      go_enter Tryd.func8, Tryd.ntmps8
      go_wp2_with (first | ((with_reducible refine gate_callee (f := 9) rfl ?_); refine goesL_ (some 13) rfl rfl Tryd.func9 (by kernel_rfl) rfl #[] rfl (by (try simp only [List.map_toArray, List.map_cons, List.map_nil]); first | done | rfl | (simp only [List.length_drop, List.length_take]; rfl)) ?_; (with_reducible refine (deadboltlaw5_known.calls  true _ A4.out (by first | exact HG.out | exact GL.drewN HG.out _ | exact GL.drewN (GL.drewN HG.out _) _ | exact GL.of_below HG.out (by repeat (first | (with_reducible first | exact HB.out | apply below_alloc | apply pw_below_drewN | apply below_drew1) | exact HB.out)))).mono ?_); rintro e w8 ⟨rfl, hb⟩; refine ⟨_, rfl, ?_⟩; have n0_ := Aside0.mk (below_step (by repeat (first | (with_reducible first | exact HB.out | apply below_alloc | apply pw_below_drewN | apply below_drew1) | exact HB.out)) hb); clear HB; have HB := n0_; clear n0_; (try clear hb); (try clear hb2); (try clear hk); (try clear hi)))
      go_loopg [7, 8] k (fun kq v7 v8 w' => ∃ (x7_1 : ByteArray) (x8_1 : Int), v7 = .string x7_1 ∧ v8 = .int .i64 x8_1 ∧ Aside0 (deadboltlaw5_LexFirst.l0 kq l0 a1 a2 x7_1 x8_1 = some r) ∧ Aside0 (kq ≤ k) ∧ Aside0 (Below w.heap.size w w'))
      case atStart => exact ⟨((⟨#[]⟩ : ByteArray)), (0), (by first | rfl | (simp; done) | (simp [*]; done)), (by first | rfl | (simp; done) | (simp [*]; done)), H', ⟨Nat.le_refl _⟩, ⟨by repeat (first | (with_reducible first | exact HB.out | apply below_alloc | apply pw_below_drewN | apply below_drew1) | exact HB.out)⟩⟩
      case round =>
        clear H'
        try clear p2
        try clear c5
        try clear c6
        try clear c6b0
        try clear c6b1
        try clear c8
        obtain ⟨x7_1, x8_1, rfl, rfl, HA, HK1, HB⟩ := hrel
        cases gk with
        | zero => exact absurd HA.out (by simp [deadboltlaw5_LexFirst.l0])
        | succ k1 =>
          have H := HA.out
          clear HA
          simp only [deadboltlaw5_LexFirst.l0] at H
          by_cases c9 : x8_1 < (l0.length : Int)
          · rw [if_pos c9] at H
            have c9b0 : decide (x8_1 < (l0.length : Int)) = true := decide_eq_true c9
            clear c9
            by_cases c10 : x8_1 < 40
            · rw [if_pos c10] at H
              have c10b0 : decide (x8_1 < 40) = true := decide_eq_true c10
              clear c10
              obtain ⟨y281, hy281⟩ : ∃ y_ : List ByteArray, y_ = (([(⟨#[123]⟩ : ByteArray), (⟨#[125]⟩ : ByteArray), (⟨#[120, 32]⟩ : ByteArray), (⟨#[102, 117, 110, 99, 32]⟩ : ByteArray), (⟨#[32]⟩ : ByteArray)] : List ByteArray)) := ⟨_, rfl⟩
              replace H : (if 0 ≤ x8_1 then ((deadboltlaw5_within.f (rd l0 x8_1) 5).bind fun t285 => (if 0 ≤ t285 then (if t285 < (y281.length : Int) then (if x7_1.size + (rdOf ByteArray.empty y281 t285).size ≤ 9223372036854775807 then (deadboltlaw5_LexFirst.l0 k1 l0 a1 a2 (x7_1 ++ (rdOf ByteArray.empty y281 t285)) (wrap64 (x8_1 + 1))) else (none)) else (none)) else (none))) else (none)) = some r := by first | (rw [hy281]; with_reducible exact H) | (have H2_ := (Option.bind_some _ _).symm.trans H; rw [hy281]; with_reducible exact H2_) | (have H2_ := (Option.bind_some _ _).symm.trans H; with_reducible exact H2_) | with_reducible exact H | (rw [hy281]; exact H) | exact H
              have Ny281 := Aside0.mk hy281
              clear hy281
              by_cases c11 : 0 ≤ x8_1
              · rw [if_pos c11] at H
                have c11b0 : decide (0 ≤ x8_1) = true := decide_eq_true c11
                clear c11
                replace H := Option.bind_eq_some_iff.mp H
                obtain ⟨t285, A120, H⟩ := H
                replace H : (if 0 ≤ t285 then (if t285 < (y281.length : Int) then (if x7_1.size + (rdOf ByteArray.empty y281 t285).size ≤ 9223372036854775807 then (deadboltlaw5_LexFirst.l0 k1 l0 a1 a2 (x7_1 ++ (rdOf ByteArray.empty y281 t285)) (wrap64 (x8_1 + 1))) else (none)) else (none)) else (none)) = some r := H
                have A12 := Aside0.mk A120
                clear A120
                by_cases c13 : 0 ≤ t285
                · rw [if_pos c13] at H
                  have c13b0 : decide (0 ≤ t285) = true := decide_eq_true c13
                  clear c13
                  by_cases c14 : t285 < (y281.length : Int)
                  · rw [if_pos c14] at H
                    have c14b0 : decide (t285 < (y281.length : Int)) = true := decide_eq_true c14
                    clear c14
                    by_cases c15 : x7_1.size + (rdOf ByteArray.empty y281 t285).size ≤ 9223372036854775807
                    · rw [if_pos c15] at H
                      have c15b0 := eq_true c15
                      have c15b1 : decide (x7_1.size + (rdOf ByteArray.empty y281 t285).size ≤ 9223372036854775807) = true := decide_eq_true c15
                      try have c15b2 : (9223372036854775807 < x7_1.size + (rdOf ByteArray.empty y281 t285).size) = False := eq_false (Nat.not_lt.2 c15)
                      have H' := Aside0.mk H
                      clear H
                      go_wp2_with (first | ((with_reducible refine gate_dst (N := 29) rfl ?_); (try (refine gate_guard (by rfl) ?_; dsimp only)); refine Kd.R_lit Kd.string _ 9 ?hg (N := 29) ?hd (xs := ([(⟨#[123]⟩ : ByteArray), (⟨#[125]⟩ : ByteArray), (⟨#[120, 32]⟩ : ByteArray), (⟨#[102, 117, 110, 99, 32]⟩ : ByteArray), (⟨#[32]⟩ : ByteArray)] : List ByteArray)) (inner := [.string (⟨#[123]⟩ : ByteArray), .string (⟨#[125]⟩ : ByteArray), .string (⟨#[120, 32]⟩ : ByteArray), .string (⟨#[102, 117, 110, 99, 32]⟩ : ByteArray), .string (⟨#[32]⟩ : ByteArray)]) (ok := fun _ => True) (okp := fun _ => True) ?hr ?hp (fun _ hk => hk) trivial (Below.refl _ _) (Nat.le_refl _) (by simp) ?_; (case hd => rfl); (case hg => rfl); (case hr => first | (go_simp; done) | (go_simp; rfl)); (case hp => exact (Reps.one (show Kd.M Kd.string _ _ _ (⟨#[123]⟩ : ByteArray) [.string (⟨#[123]⟩ : ByteArray)] from rfl) (Reps.one (show Kd.M Kd.string _ _ _ (⟨#[125]⟩ : ByteArray) [.string (⟨#[125]⟩ : ByteArray)] from rfl) (Reps.one (show Kd.M Kd.string _ _ _ (⟨#[120, 32]⟩ : ByteArray) [.string (⟨#[120, 32]⟩ : ByteArray)] from rfl) (Reps.one (show Kd.M Kd.string _ _ _ (⟨#[102, 117, 110, 99, 32]⟩ : ByteArray) [.string (⟨#[102, 117, 110, 99, 32]⟩ : ByteArray)] from rfl) (Reps.one (show Kd.M Kd.string _ _ _ (⟨#[32]⟩ : ByteArray) [.string (⟨#[32]⟩ : ByteArray)] from rfl) (Reps.none _ _))))))); intro v282 w16 ho17 hb hg_ hnew_; clear hg_ hnew_; (first | rw [← Ny281.out] at ho17 | (simp only [Int.reduceToNat] at ho17; rw [← Ny281.out] at ho17)); have n0_ := Aside0.mk (Kd.R_lower ho17 (below_size (by repeat (first | (with_reducible first | exact HB.out | apply below_alloc | apply pw_below_drewN | apply below_drew1) | exact HB.out)))); have n1_ := Aside0.mk (below_step (by repeat (first | (with_reducible first | exact HB.out | apply below_alloc | apply pw_below_drewN | apply below_drew1) | exact HB.out)) hb); clear HB; have HO283 := n0_; have HB := n1_; clear n0_ n1_; clear hb ho17; have p284 : 0 ≤ (x8_1 : Int) := of_decide_eq_true (by first | (with_reducible assumption) | assumption); have q284 : x8_1 < (l0.length : Int) := of_decide_eq_true (by first | (with_reducible assumption) | assumption); obtain ⟨ad284, e284, hx284_0⟩ := Kd.at_int HR0.out x8_1 p284 q284; cases e284; replace hx284_0 := (HB.out.cell (World.block_lt_of_cell? w _ hx284_0)).trans hx284_0; replace p284 := eq_true p284; replace q284 := eq_true q284) | ((with_reducible refine gate_callee (f := 10) rfl ?_); refine goesL_ (some 34) rfl rfl Tryd.func10 (by kernel_rfl) rfl #[.int .i64 (rd l0 x8_1), .int .i64 5] rfl (by (try simp only [List.map_toArray, List.map_cons, List.map_nil]); first | done | rfl | (simp only [List.length_drop, List.length_take]; rfl)) ?_; (with_reducible refine (deadboltlaw5_within.calls (rd l0 x8_1) 5 t285 _ A12.out).mono ?_); rintro e w' ⟨rfl, ⟨nd, rfl⟩⟩; refine ⟨_, rfl, ?_⟩; obtain ⟨Ao18, co18, eo18⟩ := Kd.R_slice HO283.out; subst eo18; have p286 : 0 ≤ (t285 : Int) := of_decide_eq_true (by first | (with_reducible assumption) | assumption); have q286 : t285 < (y281.length : Int) := of_decide_eq_true (by first | (with_reducible assumption) | assumption); obtain ⟨ad286, e286, hx286_0⟩ := Kd.at_string (Kd.R_reads' HO283.out).2.2 t285 p286 q286; cases e286; replace p286 := eq_true p286; replace q286 := eq_true q286))
                      go_roundg k1
                      case measure => have := HK1.out; omega
                      case rel => exact ⟨(x7_1 ++ (rdOf ByteArray.empty y281 t285)), (wrap64 (x8_1 + 1)), (by first | rfl | (simp; done) | (simp [*]; done)), (by first | rfl | (simp; done) | (simp [*]; done)), H', ⟨by have := HK1.out; omega⟩, ⟨by repeat (first | (with_reducible first | exact HB.out | apply below_alloc | apply pw_below_drewN | apply below_drew1) | exact HB.out)⟩⟩
                    · rw [if_neg c15] at H
                      exact absurd H (by simp)
                  · rw [if_neg c14] at H
                    exact absurd H (by simp)
                · rw [if_neg c13] at H
                  exact absurd H (by simp)
              · rw [if_neg c11] at H
                exact absurd H (by simp)
            · rw [if_neg c10] at H
              have c10b0 : decide (x8_1 < 40) = false := decide_eq_false c10
              clear c10
              obtain ⟨y287, hy287⟩ : ∃ y_ : List ByteArray, y_ = (([(⟨#[33]⟩ : ByteArray), (⟨#[65]⟩ : ByteArray), (⟨#[45]⟩ : ByteArray), (⟨#[13]⟩ : ByteArray), (⟨#[0]⟩ : ByteArray), (⟨#[59]⟩ : ByteArray), (⟨#[195, 169]⟩ : ByteArray), (⟨#[95]⟩ : ByteArray)] : List ByteArray)) := ⟨_, rfl⟩
              replace H : ((deadboltlaw5_within.f a1 8).bind fun t290 => (if 0 ≤ t290 then (if t290 < (y287.length : Int) then (if x7_1.size + 1 ≤ 9223372036854775807 then (if (x7_1 ++ (⟨#[32]⟩ : ByteArray)).size + (rdOf ByteArray.empty y287 t290).size ≤ 9223372036854775807 then (if ((x7_1 ++ (⟨#[32]⟩ : ByteArray)) ++ (rdOf ByteArray.empty y287 t290)).size + a2.size ≤ 9223372036854775807 then ((lex_Tokens.f (((x7_1 ++ (⟨#[32]⟩ : ByteArray)) ++ (rdOf ByteArray.empty y287 t290)) ++ a2)).bind fun bt292 => (if bt292.2.2 = 6 then (if bt292.2.1 = (wrap64 ((x7_1.size : Int) + 1)) then (some ((bt292.1.length : Int) == 0)) else (some false)) else (some false))) else (none)) else (none)) else (none)) else (none)) else (none))) = some r := by first | (rw [hy287]; with_reducible exact H) | (have H2_ := (Option.bind_some _ _).symm.trans H; rw [hy287]; with_reducible exact H2_) | (have H2_ := (Option.bind_some _ _).symm.trans H; with_reducible exact H2_) | with_reducible exact H | (rw [hy287]; exact H) | exact H
              have Ny287 := Aside0.mk hy287
              clear hy287
              replace H := Option.bind_eq_some_iff.mp H
              obtain ⟨t290, A190, H⟩ := H
              replace H : (if 0 ≤ t290 then (if t290 < (y287.length : Int) then (if x7_1.size + 1 ≤ 9223372036854775807 then (if (x7_1 ++ (⟨#[32]⟩ : ByteArray)).size + (rdOf ByteArray.empty y287 t290).size ≤ 9223372036854775807 then (if ((x7_1 ++ (⟨#[32]⟩ : ByteArray)) ++ (rdOf ByteArray.empty y287 t290)).size + a2.size ≤ 9223372036854775807 then ((lex_Tokens.f (((x7_1 ++ (⟨#[32]⟩ : ByteArray)) ++ (rdOf ByteArray.empty y287 t290)) ++ a2)).bind fun bt292 => (if bt292.2.2 = 6 then (if bt292.2.1 = (wrap64 ((x7_1.size : Int) + 1)) then (some ((bt292.1.length : Int) == 0)) else (some false)) else (some false))) else (none)) else (none)) else (none)) else (none)) else (none)) = some r := H
              have A19 := Aside0.mk A190
              clear A190
              by_cases c20 : 0 ≤ t290
              · rw [if_pos c20] at H
                have c20b0 : decide (0 ≤ t290) = true := decide_eq_true c20
                clear c20
                by_cases c21 : t290 < (y287.length : Int)
                · rw [if_pos c21] at H
                  have c21b0 : decide (t290 < (y287.length : Int)) = true := decide_eq_true c21
                  clear c21
                  by_cases c22 : x7_1.size + 1 ≤ 9223372036854775807
                  · rw [if_pos c22] at H
                    have c22b0 := eq_true c22
                    have c22b1 : decide (x7_1.size + 1 ≤ 9223372036854775807) = true := decide_eq_true c22
                    try have c22b2 : (9223372036854775807 < x7_1.size + 1) = False := eq_false (Nat.not_lt.2 c22)
                    by_cases c23 : (x7_1 ++ (⟨#[32]⟩ : ByteArray)).size + (rdOf ByteArray.empty y287 t290).size ≤ 9223372036854775807
                    · rw [if_pos c23] at H
                      have c23b0 := eq_true c23
                      have c23b1 : decide ((x7_1 ++ (⟨#[32]⟩ : ByteArray)).size + (rdOf ByteArray.empty y287 t290).size ≤ 9223372036854775807) = true := decide_eq_true c23
                      (try (have c23t1 : decide (x7_1.size + 1 + (rdOf ByteArray.empty y287 t290).size ≤ 9223372036854775807) = true := by have h_ := c23b1; simp only [ByteArray.size_append] at h_; exact h_))
                      try have c23b2 : (9223372036854775807 < (x7_1 ++ (⟨#[32]⟩ : ByteArray)).size + (rdOf ByteArray.empty y287 t290).size) = False := eq_false (Nat.not_lt.2 c23)
                      (try (have c23t2 : (9223372036854775807 < x7_1.size + 1 + (rdOf ByteArray.empty y287 t290).size) = False := by have h_ := c23b2; simp only [ByteArray.size_append] at h_; exact h_))
                      by_cases c24 : ((x7_1 ++ (⟨#[32]⟩ : ByteArray)) ++ (rdOf ByteArray.empty y287 t290)).size + a2.size ≤ 9223372036854775807
                      · rw [if_pos c24] at H
                        have c24b0 := eq_true c24
                        have c24b1 : decide (((x7_1 ++ (⟨#[32]⟩ : ByteArray)) ++ (rdOf ByteArray.empty y287 t290)).size + a2.size ≤ 9223372036854775807) = true := decide_eq_true c24
                        (try (have c24t1 : decide (x7_1.size + 1 + (rdOf ByteArray.empty y287 t290).size + a2.size ≤ 9223372036854775807) = true := by have h_ := c24b1; simp only [ByteArray.size_append] at h_; exact h_))
                        try have c24b2 : (9223372036854775807 < ((x7_1 ++ (⟨#[32]⟩ : ByteArray)) ++ (rdOf ByteArray.empty y287 t290)).size + a2.size) = False := eq_false (Nat.not_lt.2 c24)
                        (try (have c24t2 : (9223372036854775807 < x7_1.size + 1 + (rdOf ByteArray.empty y287 t290).size + a2.size) = False := by have h_ := c24b2; simp only [ByteArray.size_append] at h_; exact h_))
                        replace H := Option.bind_eq_some_iff.mp H
                        obtain ⟨⟨t292, t293, t294⟩, A250, H⟩ := H
                        replace H : (if t294 = 6 then (if t293 = (wrap64 ((x7_1.size : Int) + 1)) then (some ((t292.length : Int) == 0)) else (some false)) else (some false)) = some r := H
                        have A25 := Aside0.mk A250
                        clear A250
                        by_cases c26 : t294 = 6
                        · rw [if_pos c26] at H
                          have c26b0 : (t294 == 6) = true := beq_iff_eq.mpr c26
                          have c26b1 : (t294 != 6) = false := bne_eq_false_iff_eq.mpr c26
                          clear c26
                          by_cases c27 : t293 = (wrap64 ((x7_1.size : Int) + 1))
                          · rw [if_pos c27] at H
                            have c27b0 : (t293 == (wrap64 ((x7_1.size : Int) + 1))) = true := beq_iff_eq.mpr c27
                            (try (have c27u0_0 : (t293 == (((x7_1.size : Int) + 1))) = true := by have h_ := c27b0; rwa [show wrap64 ((x7_1.size : Int) + 1) = ((x7_1.size : Int) + 1) from by unfold wrap64; omega] at h_))
                            have c27b1 : (t293 != (wrap64 ((x7_1.size : Int) + 1))) = false := bne_eq_false_iff_eq.mpr c27
                            (try (have c27u1_0 : (t293 != (((x7_1.size : Int) + 1))) = false := by have h_ := c27b1; rwa [show wrap64 ((x7_1.size : Int) + 1) = ((x7_1.size : Int) + 1) from by unfold wrap64; omega] at h_))
                            clear c27
                            obtain rfl := Option.some.inj H
                            go_wp2_with (first | ((with_reducible refine gate_dst (N := 38) rfl ?_); (try (refine gate_guard (by rfl) ?_; dsimp only)); refine Kd.R_lit Kd.string _ 9 ?hg (N := 38) ?hd (xs := ([(⟨#[33]⟩ : ByteArray), (⟨#[65]⟩ : ByteArray), (⟨#[45]⟩ : ByteArray), (⟨#[13]⟩ : ByteArray), (⟨#[0]⟩ : ByteArray), (⟨#[59]⟩ : ByteArray), (⟨#[195, 169]⟩ : ByteArray), (⟨#[95]⟩ : ByteArray)] : List ByteArray)) (inner := [.string (⟨#[33]⟩ : ByteArray), .string (⟨#[65]⟩ : ByteArray), .string (⟨#[45]⟩ : ByteArray), .string (⟨#[13]⟩ : ByteArray), .string (⟨#[0]⟩ : ByteArray), .string (⟨#[59]⟩ : ByteArray), .string (⟨#[195, 169]⟩ : ByteArray), .string (⟨#[95]⟩ : ByteArray)]) (ok := fun _ => True) (okp := fun _ => True) ?hr ?hp (fun _ hk => hk) trivial (Below.refl _ _) (Nat.le_refl _) (by simp) ?_; (case hd => rfl); (case hg => rfl); (case hr => first | (go_simp; done) | (go_simp; rfl)); (case hp => exact (Reps.one (show Kd.M Kd.string _ _ _ (⟨#[33]⟩ : ByteArray) [.string (⟨#[33]⟩ : ByteArray)] from rfl) (Reps.one (show Kd.M Kd.string _ _ _ (⟨#[65]⟩ : ByteArray) [.string (⟨#[65]⟩ : ByteArray)] from rfl) (Reps.one (show Kd.M Kd.string _ _ _ (⟨#[45]⟩ : ByteArray) [.string (⟨#[45]⟩ : ByteArray)] from rfl) (Reps.one (show Kd.M Kd.string _ _ _ (⟨#[13]⟩ : ByteArray) [.string (⟨#[13]⟩ : ByteArray)] from rfl) (Reps.one (show Kd.M Kd.string _ _ _ (⟨#[0]⟩ : ByteArray) [.string (⟨#[0]⟩ : ByteArray)] from rfl) (Reps.one (show Kd.M Kd.string _ _ _ (⟨#[59]⟩ : ByteArray) [.string (⟨#[59]⟩ : ByteArray)] from rfl) (Reps.one (show Kd.M Kd.string _ _ _ (⟨#[195, 169]⟩ : ByteArray) [.string (⟨#[195, 169]⟩ : ByteArray)] from rfl) (Reps.one (show Kd.M Kd.string _ _ _ (⟨#[95]⟩ : ByteArray) [.string (⟨#[95]⟩ : ByteArray)] from rfl) (Reps.none _ _)))))))))); intro v288 w28 ho29 hb hg_ hnew_; clear hg_ hnew_; (first | rw [← Ny287.out] at ho29 | (simp only [Int.reduceToNat] at ho29; rw [← Ny287.out] at ho29)); have n0_ := Aside0.mk (Kd.R_lower ho29 (below_size (by repeat (first | (with_reducible first | exact HB.out | apply below_alloc | apply pw_below_drewN | apply below_drew1) | exact HB.out)))); have n1_ := Aside0.mk (below_step (by repeat (first | (with_reducible first | exact HB.out | apply below_alloc | apply pw_below_drewN | apply below_drew1) | exact HB.out)) hb); clear HB; have HO289 := n0_; have HB := n1_; clear n0_ n1_; clear hb ho29) | ((with_reducible refine gate_callee (f := 10) rfl ?_); refine goesL_ (some 40) rfl rfl Tryd.func10 (by kernel_rfl) rfl #[.int .i64 a1, .int .i64 8] rfl (by (try simp only [List.map_toArray, List.map_cons, List.map_nil]); first | done | rfl | (simp only [List.length_drop, List.length_take]; rfl)) ?_; (with_reducible refine (deadboltlaw5_within.calls a1 8 t290 _ A19.out).mono ?_); rintro e w' ⟨rfl, ⟨nd, rfl⟩⟩; refine ⟨_, rfl, ?_⟩; obtain ⟨Ao30, co30, eo30⟩ := Kd.R_slice HO289.out; subst eo30; have p291 : 0 ≤ (t290 : Int) := of_decide_eq_true (by first | (with_reducible assumption) | assumption); have q291 : t290 < (y287.length : Int) := of_decide_eq_true (by first | (with_reducible assumption) | assumption); obtain ⟨ad291, e291, hx291_0⟩ := Kd.at_string (Kd.R_reads' HO289.out).2.2 t290 p291 q291; cases e291; replace p291 := eq_true p291; replace q291 := eq_true q291) | ((with_reducible refine gate_callee (f := 12) rfl ?_); refine goesL_ (some 50) rfl rfl Tryd.func12 (by kernel_rfl) rfl #[.string (((x7_1 ++ (⟨#[32]⟩ : ByteArray)) ++ (rdOf ByteArray.empty y287 t290)) ++ a2)] rfl (by (try simp only [List.map_toArray, List.map_cons, List.map_nil]); first | done | rfl | (simp only [List.length_drop, List.length_take]; rfl)) ?_; (with_reducible refine (lex_Tokens.calls (((x7_1 ++ (⟨#[32]⟩ : ByteArray)) ++ (rdOf ByteArray.empty y287 t290)) ++ a2) t292 t293 t294 _ A25.out).mono ?_); rintro e w31 ⟨v295, rfl, ho0, hb⟩; refine ⟨_, rfl, ?_⟩; have n0_ := Aside0.mk (Kd.R_below (by (with_reducible repeat (first | apply Kd.R_alloc | apply Kd.R_drewN | apply Kd.R_drew)); exact HO289.out) hb); have n1_ := Aside0.mk (Kd.R_lower ho0 (below_size (by repeat (first | (with_reducible first | exact HB.out | apply below_alloc | apply pw_below_drewN | apply below_drew1) | exact HB.out)))); have n2_ := Aside0.mk (below_step (by repeat (first | (with_reducible first | exact HB.out | apply below_alloc | apply pw_below_drewN | apply below_drew1) | exact HB.out)) hb); clear HO289; clear HB; have HO289 := n0_; have HO296 := n1_; have HB := n2_; clear n0_ n1_ n2_; (try clear hb); (try clear hb2); (try clear hk); (try clear hi); (try clear ho0); obtain ⟨Ao32, co32, eo32⟩ := Kd.R_slice HO296.out; subst eo32))
                            go_ret
                            exact ⟨by first | rfl | (simp [errW_none, errW_some] <;> rfl) | (simp [*, errW_none, errW_some] <;> rfl), by repeat (first | (with_reducible first | exact HB.out | apply below_alloc | apply pw_below_drewN | apply below_drew1) | exact HB.out)⟩
                          · rw [if_neg c27] at H
                            have c27b0 : (t293 == (wrap64 ((x7_1.size : Int) + 1))) = false := beq_eq_false_iff_ne.mpr c27
                            (try (have c27u0_0 : (t293 == (((x7_1.size : Int) + 1))) = false := by have h_ := c27b0; rwa [show wrap64 ((x7_1.size : Int) + 1) = ((x7_1.size : Int) + 1) from by unfold wrap64; omega] at h_))
                            have c27b1 : (t293 != (wrap64 ((x7_1.size : Int) + 1))) = true := bne_iff_ne.mpr c27
                            (try (have c27u1_0 : (t293 != (((x7_1.size : Int) + 1))) = true := by have h_ := c27b1; rwa [show wrap64 ((x7_1.size : Int) + 1) = ((x7_1.size : Int) + 1) from by unfold wrap64; omega] at h_))
                            obtain rfl := Option.some.inj H
                            go_wp2_with (first | ((with_reducible refine gate_dst (N := 38) rfl ?_); (try (refine gate_guard (by rfl) ?_; dsimp only)); refine Kd.R_lit Kd.string _ 9 ?hg (N := 38) ?hd (xs := ([(⟨#[33]⟩ : ByteArray), (⟨#[65]⟩ : ByteArray), (⟨#[45]⟩ : ByteArray), (⟨#[13]⟩ : ByteArray), (⟨#[0]⟩ : ByteArray), (⟨#[59]⟩ : ByteArray), (⟨#[195, 169]⟩ : ByteArray), (⟨#[95]⟩ : ByteArray)] : List ByteArray)) (inner := [.string (⟨#[33]⟩ : ByteArray), .string (⟨#[65]⟩ : ByteArray), .string (⟨#[45]⟩ : ByteArray), .string (⟨#[13]⟩ : ByteArray), .string (⟨#[0]⟩ : ByteArray), .string (⟨#[59]⟩ : ByteArray), .string (⟨#[195, 169]⟩ : ByteArray), .string (⟨#[95]⟩ : ByteArray)]) (ok := fun _ => True) (okp := fun _ => True) ?hr ?hp (fun _ hk => hk) trivial (Below.refl _ _) (Nat.le_refl _) (by simp) ?_; (case hd => rfl); (case hg => rfl); (case hr => first | (go_simp; done) | (go_simp; rfl)); (case hp => exact (Reps.one (show Kd.M Kd.string _ _ _ (⟨#[33]⟩ : ByteArray) [.string (⟨#[33]⟩ : ByteArray)] from rfl) (Reps.one (show Kd.M Kd.string _ _ _ (⟨#[65]⟩ : ByteArray) [.string (⟨#[65]⟩ : ByteArray)] from rfl) (Reps.one (show Kd.M Kd.string _ _ _ (⟨#[45]⟩ : ByteArray) [.string (⟨#[45]⟩ : ByteArray)] from rfl) (Reps.one (show Kd.M Kd.string _ _ _ (⟨#[13]⟩ : ByteArray) [.string (⟨#[13]⟩ : ByteArray)] from rfl) (Reps.one (show Kd.M Kd.string _ _ _ (⟨#[0]⟩ : ByteArray) [.string (⟨#[0]⟩ : ByteArray)] from rfl) (Reps.one (show Kd.M Kd.string _ _ _ (⟨#[59]⟩ : ByteArray) [.string (⟨#[59]⟩ : ByteArray)] from rfl) (Reps.one (show Kd.M Kd.string _ _ _ (⟨#[195, 169]⟩ : ByteArray) [.string (⟨#[195, 169]⟩ : ByteArray)] from rfl) (Reps.one (show Kd.M Kd.string _ _ _ (⟨#[95]⟩ : ByteArray) [.string (⟨#[95]⟩ : ByteArray)] from rfl) (Reps.none _ _)))))))))); intro v288 w33 ho34 hb hg_ hnew_; clear hg_ hnew_; (first | rw [← Ny287.out] at ho34 | (simp only [Int.reduceToNat] at ho34; rw [← Ny287.out] at ho34)); have n0_ := Aside0.mk (Kd.R_lower ho34 (below_size (by repeat (first | (with_reducible first | exact HB.out | apply below_alloc | apply pw_below_drewN | apply below_drew1) | exact HB.out)))); have n1_ := Aside0.mk (below_step (by repeat (first | (with_reducible first | exact HB.out | apply below_alloc | apply pw_below_drewN | apply below_drew1) | exact HB.out)) hb); clear HB; have HO289 := n0_; have HB := n1_; clear n0_ n1_; clear hb ho34) | ((with_reducible refine gate_callee (f := 10) rfl ?_); refine goesL_ (some 40) rfl rfl Tryd.func10 (by kernel_rfl) rfl #[.int .i64 a1, .int .i64 8] rfl (by (try simp only [List.map_toArray, List.map_cons, List.map_nil]); first | done | rfl | (simp only [List.length_drop, List.length_take]; rfl)) ?_; (with_reducible refine (deadboltlaw5_within.calls a1 8 t290 _ A19.out).mono ?_); rintro e w' ⟨rfl, ⟨nd, rfl⟩⟩; refine ⟨_, rfl, ?_⟩; obtain ⟨Ao35, co35, eo35⟩ := Kd.R_slice HO289.out; subst eo35; have p291 : 0 ≤ (t290 : Int) := of_decide_eq_true (by first | (with_reducible assumption) | assumption); have q291 : t290 < (y287.length : Int) := of_decide_eq_true (by first | (with_reducible assumption) | assumption); obtain ⟨ad291, e291, hx291_0⟩ := Kd.at_string (Kd.R_reads' HO289.out).2.2 t290 p291 q291; cases e291; replace p291 := eq_true p291; replace q291 := eq_true q291) | ((with_reducible refine gate_callee (f := 12) rfl ?_); refine goesL_ (some 50) rfl rfl Tryd.func12 (by kernel_rfl) rfl #[.string (((x7_1 ++ (⟨#[32]⟩ : ByteArray)) ++ (rdOf ByteArray.empty y287 t290)) ++ a2)] rfl (by (try simp only [List.map_toArray, List.map_cons, List.map_nil]); first | done | rfl | (simp only [List.length_drop, List.length_take]; rfl)) ?_; (with_reducible refine (lex_Tokens.calls (((x7_1 ++ (⟨#[32]⟩ : ByteArray)) ++ (rdOf ByteArray.empty y287 t290)) ++ a2) t292 t293 t294 _ A25.out).mono ?_); rintro e w36 ⟨v295, rfl, ho0, hb⟩; refine ⟨_, rfl, ?_⟩; have n0_ := Aside0.mk (Kd.R_below (by (with_reducible repeat (first | apply Kd.R_alloc | apply Kd.R_drewN | apply Kd.R_drew)); exact HO289.out) hb); have n1_ := Aside0.mk (Kd.R_lower ho0 (below_size (by repeat (first | (with_reducible first | exact HB.out | apply below_alloc | apply pw_below_drewN | apply below_drew1) | exact HB.out)))); have n2_ := Aside0.mk (below_step (by repeat (first | (with_reducible first | exact HB.out | apply below_alloc | apply pw_below_drewN | apply below_drew1) | exact HB.out)) hb); clear HO289; clear HB; have HO289 := n0_; have HO296 := n1_; have HB := n2_; clear n0_ n1_ n2_; (try clear hb); (try clear hb2); (try clear hk); (try clear hi); (try clear ho0)))
                            go_ret
                            exact ⟨by first | rfl | (simp [errW_none, errW_some] <;> rfl) | (simp [*, errW_none, errW_some] <;> rfl), by repeat (first | (with_reducible first | exact HB.out | apply below_alloc | apply pw_below_drewN | apply below_drew1) | exact HB.out)⟩
                        · rw [if_neg c26] at H
                          have c26b0 : (t294 == 6) = false := beq_eq_false_iff_ne.mpr c26
                          have c26b1 : (t294 != 6) = true := bne_iff_ne.mpr c26
                          obtain rfl := Option.some.inj H
                          go_wp2_with (first | ((with_reducible refine gate_dst (N := 38) rfl ?_); (try (refine gate_guard (by rfl) ?_; dsimp only)); refine Kd.R_lit Kd.string _ 9 ?hg (N := 38) ?hd (xs := ([(⟨#[33]⟩ : ByteArray), (⟨#[65]⟩ : ByteArray), (⟨#[45]⟩ : ByteArray), (⟨#[13]⟩ : ByteArray), (⟨#[0]⟩ : ByteArray), (⟨#[59]⟩ : ByteArray), (⟨#[195, 169]⟩ : ByteArray), (⟨#[95]⟩ : ByteArray)] : List ByteArray)) (inner := [.string (⟨#[33]⟩ : ByteArray), .string (⟨#[65]⟩ : ByteArray), .string (⟨#[45]⟩ : ByteArray), .string (⟨#[13]⟩ : ByteArray), .string (⟨#[0]⟩ : ByteArray), .string (⟨#[59]⟩ : ByteArray), .string (⟨#[195, 169]⟩ : ByteArray), .string (⟨#[95]⟩ : ByteArray)]) (ok := fun _ => True) (okp := fun _ => True) ?hr ?hp (fun _ hk => hk) trivial (Below.refl _ _) (Nat.le_refl _) (by simp) ?_; (case hd => rfl); (case hg => rfl); (case hr => first | (go_simp; done) | (go_simp; rfl)); (case hp => exact (Reps.one (show Kd.M Kd.string _ _ _ (⟨#[33]⟩ : ByteArray) [.string (⟨#[33]⟩ : ByteArray)] from rfl) (Reps.one (show Kd.M Kd.string _ _ _ (⟨#[65]⟩ : ByteArray) [.string (⟨#[65]⟩ : ByteArray)] from rfl) (Reps.one (show Kd.M Kd.string _ _ _ (⟨#[45]⟩ : ByteArray) [.string (⟨#[45]⟩ : ByteArray)] from rfl) (Reps.one (show Kd.M Kd.string _ _ _ (⟨#[13]⟩ : ByteArray) [.string (⟨#[13]⟩ : ByteArray)] from rfl) (Reps.one (show Kd.M Kd.string _ _ _ (⟨#[0]⟩ : ByteArray) [.string (⟨#[0]⟩ : ByteArray)] from rfl) (Reps.one (show Kd.M Kd.string _ _ _ (⟨#[59]⟩ : ByteArray) [.string (⟨#[59]⟩ : ByteArray)] from rfl) (Reps.one (show Kd.M Kd.string _ _ _ (⟨#[195, 169]⟩ : ByteArray) [.string (⟨#[195, 169]⟩ : ByteArray)] from rfl) (Reps.one (show Kd.M Kd.string _ _ _ (⟨#[95]⟩ : ByteArray) [.string (⟨#[95]⟩ : ByteArray)] from rfl) (Reps.none _ _)))))))))); intro v288 w37 ho38 hb hg_ hnew_; clear hg_ hnew_; (first | rw [← Ny287.out] at ho38 | (simp only [Int.reduceToNat] at ho38; rw [← Ny287.out] at ho38)); have n0_ := Aside0.mk (Kd.R_lower ho38 (below_size (by repeat (first | (with_reducible first | exact HB.out | apply below_alloc | apply pw_below_drewN | apply below_drew1) | exact HB.out)))); have n1_ := Aside0.mk (below_step (by repeat (first | (with_reducible first | exact HB.out | apply below_alloc | apply pw_below_drewN | apply below_drew1) | exact HB.out)) hb); clear HB; have HO289 := n0_; have HB := n1_; clear n0_ n1_; clear hb ho38) | ((with_reducible refine gate_callee (f := 10) rfl ?_); refine goesL_ (some 40) rfl rfl Tryd.func10 (by kernel_rfl) rfl #[.int .i64 a1, .int .i64 8] rfl (by (try simp only [List.map_toArray, List.map_cons, List.map_nil]); first | done | rfl | (simp only [List.length_drop, List.length_take]; rfl)) ?_; (with_reducible refine (deadboltlaw5_within.calls a1 8 t290 _ A19.out).mono ?_); rintro e w' ⟨rfl, ⟨nd, rfl⟩⟩; refine ⟨_, rfl, ?_⟩; obtain ⟨Ao39, co39, eo39⟩ := Kd.R_slice HO289.out; subst eo39; have p291 : 0 ≤ (t290 : Int) := of_decide_eq_true (by first | (with_reducible assumption) | assumption); have q291 : t290 < (y287.length : Int) := of_decide_eq_true (by first | (with_reducible assumption) | assumption); obtain ⟨ad291, e291, hx291_0⟩ := Kd.at_string (Kd.R_reads' HO289.out).2.2 t290 p291 q291; cases e291; replace p291 := eq_true p291; replace q291 := eq_true q291) | ((with_reducible refine gate_callee (f := 12) rfl ?_); refine goesL_ (some 50) rfl rfl Tryd.func12 (by kernel_rfl) rfl #[.string (((x7_1 ++ (⟨#[32]⟩ : ByteArray)) ++ (rdOf ByteArray.empty y287 t290)) ++ a2)] rfl (by (try simp only [List.map_toArray, List.map_cons, List.map_nil]); first | done | rfl | (simp only [List.length_drop, List.length_take]; rfl)) ?_; (with_reducible refine (lex_Tokens.calls (((x7_1 ++ (⟨#[32]⟩ : ByteArray)) ++ (rdOf ByteArray.empty y287 t290)) ++ a2) t292 t293 t294 _ A25.out).mono ?_); rintro e w40 ⟨v295, rfl, ho0, hb⟩; refine ⟨_, rfl, ?_⟩; have n0_ := Aside0.mk (Kd.R_below (by (with_reducible repeat (first | apply Kd.R_alloc | apply Kd.R_drewN | apply Kd.R_drew)); exact HO289.out) hb); have n1_ := Aside0.mk (Kd.R_lower ho0 (below_size (by repeat (first | (with_reducible first | exact HB.out | apply below_alloc | apply pw_below_drewN | apply below_drew1) | exact HB.out)))); have n2_ := Aside0.mk (below_step (by repeat (first | (with_reducible first | exact HB.out | apply below_alloc | apply pw_below_drewN | apply below_drew1) | exact HB.out)) hb); clear HO289; clear HB; have HO289 := n0_; have HO296 := n1_; have HB := n2_; clear n0_ n1_ n2_; (try clear hb); (try clear hb2); (try clear hk); (try clear hi); (try clear ho0)))
                          go_ret
                          exact ⟨by first | rfl | (simp [errW_none, errW_some] <;> rfl) | (simp [*, errW_none, errW_some] <;> rfl), by repeat (first | (with_reducible first | exact HB.out | apply below_alloc | apply pw_below_drewN | apply below_drew1) | exact HB.out)⟩
                      · rw [if_neg c24] at H
                        exact absurd H (by simp)
                    · rw [if_neg c23] at H
                      exact absurd H (by simp)
                  · rw [if_neg c22] at H
                    exact absurd H (by simp)
                · rw [if_neg c21] at H
                  exact absurd H (by simp)
              · rw [if_neg c20] at H
                exact absurd H (by simp)
          · rw [if_neg c9] at H
            have c9b0 : decide (x8_1 < (l0.length : Int)) = false := decide_eq_false c9
            clear c9
            obtain ⟨y297, hy297⟩ : ∃ y_ : List ByteArray, y_ = (([(⟨#[33]⟩ : ByteArray), (⟨#[65]⟩ : ByteArray), (⟨#[45]⟩ : ByteArray), (⟨#[13]⟩ : ByteArray), (⟨#[0]⟩ : ByteArray), (⟨#[59]⟩ : ByteArray), (⟨#[195, 169]⟩ : ByteArray), (⟨#[95]⟩ : ByteArray)] : List ByteArray)) := ⟨_, rfl⟩
            replace H : ((deadboltlaw5_within.f a1 8).bind fun t300 => (if 0 ≤ t300 then (if t300 < (y297.length : Int) then (if x7_1.size + 1 ≤ 9223372036854775807 then (if (x7_1 ++ (⟨#[32]⟩ : ByteArray)).size + (rdOf ByteArray.empty y297 t300).size ≤ 9223372036854775807 then (if ((x7_1 ++ (⟨#[32]⟩ : ByteArray)) ++ (rdOf ByteArray.empty y297 t300)).size + a2.size ≤ 9223372036854775807 then ((lex_Tokens.f (((x7_1 ++ (⟨#[32]⟩ : ByteArray)) ++ (rdOf ByteArray.empty y297 t300)) ++ a2)).bind fun bt302 => (if bt302.2.2 = 6 then (if bt302.2.1 = (wrap64 ((x7_1.size : Int) + 1)) then (some ((bt302.1.length : Int) == 0)) else (some false)) else (some false))) else (none)) else (none)) else (none)) else (none)) else (none))) = some r := by first | (rw [hy297]; with_reducible exact H) | (have H2_ := (Option.bind_some _ _).symm.trans H; rw [hy297]; with_reducible exact H2_) | (have H2_ := (Option.bind_some _ _).symm.trans H; with_reducible exact H2_) | with_reducible exact H | (rw [hy297]; exact H) | exact H
            have Ny297 := Aside0.mk hy297
            clear hy297
            replace H := Option.bind_eq_some_iff.mp H
            obtain ⟨t300, A410, H⟩ := H
            replace H : (if 0 ≤ t300 then (if t300 < (y297.length : Int) then (if x7_1.size + 1 ≤ 9223372036854775807 then (if (x7_1 ++ (⟨#[32]⟩ : ByteArray)).size + (rdOf ByteArray.empty y297 t300).size ≤ 9223372036854775807 then (if ((x7_1 ++ (⟨#[32]⟩ : ByteArray)) ++ (rdOf ByteArray.empty y297 t300)).size + a2.size ≤ 9223372036854775807 then ((lex_Tokens.f (((x7_1 ++ (⟨#[32]⟩ : ByteArray)) ++ (rdOf ByteArray.empty y297 t300)) ++ a2)).bind fun bt302 => (if bt302.2.2 = 6 then (if bt302.2.1 = (wrap64 ((x7_1.size : Int) + 1)) then (some ((bt302.1.length : Int) == 0)) else (some false)) else (some false))) else (none)) else (none)) else (none)) else (none)) else (none)) = some r := H
            have A41 := Aside0.mk A410
            clear A410
            by_cases c42 : 0 ≤ t300
            · rw [if_pos c42] at H
              have c42b0 : decide (0 ≤ t300) = true := decide_eq_true c42
              clear c42
              by_cases c43 : t300 < (y297.length : Int)
              · rw [if_pos c43] at H
                have c43b0 : decide (t300 < (y297.length : Int)) = true := decide_eq_true c43
                clear c43
                by_cases c44 : x7_1.size + 1 ≤ 9223372036854775807
                · rw [if_pos c44] at H
                  have c44b0 := eq_true c44
                  have c44b1 : decide (x7_1.size + 1 ≤ 9223372036854775807) = true := decide_eq_true c44
                  try have c44b2 : (9223372036854775807 < x7_1.size + 1) = False := eq_false (Nat.not_lt.2 c44)
                  by_cases c45 : (x7_1 ++ (⟨#[32]⟩ : ByteArray)).size + (rdOf ByteArray.empty y297 t300).size ≤ 9223372036854775807
                  · rw [if_pos c45] at H
                    have c45b0 := eq_true c45
                    have c45b1 : decide ((x7_1 ++ (⟨#[32]⟩ : ByteArray)).size + (rdOf ByteArray.empty y297 t300).size ≤ 9223372036854775807) = true := decide_eq_true c45
                    (try (have c45t1 : decide (x7_1.size + 1 + (rdOf ByteArray.empty y297 t300).size ≤ 9223372036854775807) = true := by have h_ := c45b1; simp only [ByteArray.size_append] at h_; exact h_))
                    try have c45b2 : (9223372036854775807 < (x7_1 ++ (⟨#[32]⟩ : ByteArray)).size + (rdOf ByteArray.empty y297 t300).size) = False := eq_false (Nat.not_lt.2 c45)
                    (try (have c45t2 : (9223372036854775807 < x7_1.size + 1 + (rdOf ByteArray.empty y297 t300).size) = False := by have h_ := c45b2; simp only [ByteArray.size_append] at h_; exact h_))
                    by_cases c46 : ((x7_1 ++ (⟨#[32]⟩ : ByteArray)) ++ (rdOf ByteArray.empty y297 t300)).size + a2.size ≤ 9223372036854775807
                    · rw [if_pos c46] at H
                      have c46b0 := eq_true c46
                      have c46b1 : decide (((x7_1 ++ (⟨#[32]⟩ : ByteArray)) ++ (rdOf ByteArray.empty y297 t300)).size + a2.size ≤ 9223372036854775807) = true := decide_eq_true c46
                      (try (have c46t1 : decide (x7_1.size + 1 + (rdOf ByteArray.empty y297 t300).size + a2.size ≤ 9223372036854775807) = true := by have h_ := c46b1; simp only [ByteArray.size_append] at h_; exact h_))
                      try have c46b2 : (9223372036854775807 < ((x7_1 ++ (⟨#[32]⟩ : ByteArray)) ++ (rdOf ByteArray.empty y297 t300)).size + a2.size) = False := eq_false (Nat.not_lt.2 c46)
                      (try (have c46t2 : (9223372036854775807 < x7_1.size + 1 + (rdOf ByteArray.empty y297 t300).size + a2.size) = False := by have h_ := c46b2; simp only [ByteArray.size_append] at h_; exact h_))
                      replace H := Option.bind_eq_some_iff.mp H
                      obtain ⟨⟨t302, t303, t304⟩, A470, H⟩ := H
                      replace H : (if t304 = 6 then (if t303 = (wrap64 ((x7_1.size : Int) + 1)) then (some ((t302.length : Int) == 0)) else (some false)) else (some false)) = some r := H
                      have A47 := Aside0.mk A470
                      clear A470
                      by_cases c48 : t304 = 6
                      · rw [if_pos c48] at H
                        have c48b0 : (t304 == 6) = true := beq_iff_eq.mpr c48
                        have c48b1 : (t304 != 6) = false := bne_eq_false_iff_eq.mpr c48
                        clear c48
                        by_cases c49 : t303 = (wrap64 ((x7_1.size : Int) + 1))
                        · rw [if_pos c49] at H
                          have c49b0 : (t303 == (wrap64 ((x7_1.size : Int) + 1))) = true := beq_iff_eq.mpr c49
                          (try (have c49u0_0 : (t303 == (((x7_1.size : Int) + 1))) = true := by have h_ := c49b0; rwa [show wrap64 ((x7_1.size : Int) + 1) = ((x7_1.size : Int) + 1) from by unfold wrap64; omega] at h_))
                          have c49b1 : (t303 != (wrap64 ((x7_1.size : Int) + 1))) = false := bne_eq_false_iff_eq.mpr c49
                          (try (have c49u1_0 : (t303 != (((x7_1.size : Int) + 1))) = false := by have h_ := c49b1; rwa [show wrap64 ((x7_1.size : Int) + 1) = ((x7_1.size : Int) + 1) from by unfold wrap64; omega] at h_))
                          clear c49
                          obtain rfl := Option.some.inj H
                          go_wp2_with (first | ((with_reducible refine gate_dst (N := 38) rfl ?_); (try (refine gate_guard (by rfl) ?_; dsimp only)); refine Kd.R_lit Kd.string _ 9 ?hg (N := 38) ?hd (xs := ([(⟨#[33]⟩ : ByteArray), (⟨#[65]⟩ : ByteArray), (⟨#[45]⟩ : ByteArray), (⟨#[13]⟩ : ByteArray), (⟨#[0]⟩ : ByteArray), (⟨#[59]⟩ : ByteArray), (⟨#[195, 169]⟩ : ByteArray), (⟨#[95]⟩ : ByteArray)] : List ByteArray)) (inner := [.string (⟨#[33]⟩ : ByteArray), .string (⟨#[65]⟩ : ByteArray), .string (⟨#[45]⟩ : ByteArray), .string (⟨#[13]⟩ : ByteArray), .string (⟨#[0]⟩ : ByteArray), .string (⟨#[59]⟩ : ByteArray), .string (⟨#[195, 169]⟩ : ByteArray), .string (⟨#[95]⟩ : ByteArray)]) (ok := fun _ => True) (okp := fun _ => True) ?hr ?hp (fun _ hk => hk) trivial (Below.refl _ _) (Nat.le_refl _) (by simp) ?_; (case hd => rfl); (case hg => rfl); (case hr => first | (go_simp; done) | (go_simp; rfl)); (case hp => exact (Reps.one (show Kd.M Kd.string _ _ _ (⟨#[33]⟩ : ByteArray) [.string (⟨#[33]⟩ : ByteArray)] from rfl) (Reps.one (show Kd.M Kd.string _ _ _ (⟨#[65]⟩ : ByteArray) [.string (⟨#[65]⟩ : ByteArray)] from rfl) (Reps.one (show Kd.M Kd.string _ _ _ (⟨#[45]⟩ : ByteArray) [.string (⟨#[45]⟩ : ByteArray)] from rfl) (Reps.one (show Kd.M Kd.string _ _ _ (⟨#[13]⟩ : ByteArray) [.string (⟨#[13]⟩ : ByteArray)] from rfl) (Reps.one (show Kd.M Kd.string _ _ _ (⟨#[0]⟩ : ByteArray) [.string (⟨#[0]⟩ : ByteArray)] from rfl) (Reps.one (show Kd.M Kd.string _ _ _ (⟨#[59]⟩ : ByteArray) [.string (⟨#[59]⟩ : ByteArray)] from rfl) (Reps.one (show Kd.M Kd.string _ _ _ (⟨#[195, 169]⟩ : ByteArray) [.string (⟨#[195, 169]⟩ : ByteArray)] from rfl) (Reps.one (show Kd.M Kd.string _ _ _ (⟨#[95]⟩ : ByteArray) [.string (⟨#[95]⟩ : ByteArray)] from rfl) (Reps.none _ _)))))))))); intro v298 w50 ho51 hb hg_ hnew_; clear hg_ hnew_; (first | rw [← Ny297.out] at ho51 | (simp only [Int.reduceToNat] at ho51; rw [← Ny297.out] at ho51)); have n0_ := Aside0.mk (Kd.R_lower ho51 (below_size (by repeat (first | (with_reducible first | exact HB.out | apply below_alloc | apply pw_below_drewN | apply below_drew1) | exact HB.out)))); have n1_ := Aside0.mk (below_step (by repeat (first | (with_reducible first | exact HB.out | apply below_alloc | apply pw_below_drewN | apply below_drew1) | exact HB.out)) hb); clear HB; have HO299 := n0_; have HB := n1_; clear n0_ n1_; clear hb ho51) | ((with_reducible refine gate_callee (f := 10) rfl ?_); refine goesL_ (some 40) rfl rfl Tryd.func10 (by kernel_rfl) rfl #[.int .i64 a1, .int .i64 8] rfl (by (try simp only [List.map_toArray, List.map_cons, List.map_nil]); first | done | rfl | (simp only [List.length_drop, List.length_take]; rfl)) ?_; (with_reducible refine (deadboltlaw5_within.calls a1 8 t300 _ A41.out).mono ?_); rintro e w' ⟨rfl, ⟨nd, rfl⟩⟩; refine ⟨_, rfl, ?_⟩; obtain ⟨Ao52, co52, eo52⟩ := Kd.R_slice HO299.out; subst eo52; have p301 : 0 ≤ (t300 : Int) := of_decide_eq_true (by first | (with_reducible assumption) | assumption); have q301 : t300 < (y297.length : Int) := of_decide_eq_true (by first | (with_reducible assumption) | assumption); obtain ⟨ad301, e301, hx301_0⟩ := Kd.at_string (Kd.R_reads' HO299.out).2.2 t300 p301 q301; cases e301; replace p301 := eq_true p301; replace q301 := eq_true q301) | ((with_reducible refine gate_callee (f := 12) rfl ?_); refine goesL_ (some 50) rfl rfl Tryd.func12 (by kernel_rfl) rfl #[.string (((x7_1 ++ (⟨#[32]⟩ : ByteArray)) ++ (rdOf ByteArray.empty y297 t300)) ++ a2)] rfl (by (try simp only [List.map_toArray, List.map_cons, List.map_nil]); first | done | rfl | (simp only [List.length_drop, List.length_take]; rfl)) ?_; (with_reducible refine (lex_Tokens.calls (((x7_1 ++ (⟨#[32]⟩ : ByteArray)) ++ (rdOf ByteArray.empty y297 t300)) ++ a2) t302 t303 t304 _ A47.out).mono ?_); rintro e w53 ⟨v305, rfl, ho0, hb⟩; refine ⟨_, rfl, ?_⟩; have n0_ := Aside0.mk (Kd.R_below (by (with_reducible repeat (first | apply Kd.R_alloc | apply Kd.R_drewN | apply Kd.R_drew)); exact HO299.out) hb); have n1_ := Aside0.mk (Kd.R_lower ho0 (below_size (by repeat (first | (with_reducible first | exact HB.out | apply below_alloc | apply pw_below_drewN | apply below_drew1) | exact HB.out)))); have n2_ := Aside0.mk (below_step (by repeat (first | (with_reducible first | exact HB.out | apply below_alloc | apply pw_below_drewN | apply below_drew1) | exact HB.out)) hb); clear HO299; clear HB; have HO299 := n0_; have HO306 := n1_; have HB := n2_; clear n0_ n1_ n2_; (try clear hb); (try clear hb2); (try clear hk); (try clear hi); (try clear ho0); obtain ⟨Ao54, co54, eo54⟩ := Kd.R_slice HO306.out; subst eo54))
                          go_ret
                          exact ⟨by first | rfl | (simp [errW_none, errW_some] <;> rfl) | (simp [*, errW_none, errW_some] <;> rfl), by repeat (first | (with_reducible first | exact HB.out | apply below_alloc | apply pw_below_drewN | apply below_drew1) | exact HB.out)⟩
                        · rw [if_neg c49] at H
                          have c49b0 : (t303 == (wrap64 ((x7_1.size : Int) + 1))) = false := beq_eq_false_iff_ne.mpr c49
                          (try (have c49u0_0 : (t303 == (((x7_1.size : Int) + 1))) = false := by have h_ := c49b0; rwa [show wrap64 ((x7_1.size : Int) + 1) = ((x7_1.size : Int) + 1) from by unfold wrap64; omega] at h_))
                          have c49b1 : (t303 != (wrap64 ((x7_1.size : Int) + 1))) = true := bne_iff_ne.mpr c49
                          (try (have c49u1_0 : (t303 != (((x7_1.size : Int) + 1))) = true := by have h_ := c49b1; rwa [show wrap64 ((x7_1.size : Int) + 1) = ((x7_1.size : Int) + 1) from by unfold wrap64; omega] at h_))
                          obtain rfl := Option.some.inj H
                          go_wp2_with (first | ((with_reducible refine gate_dst (N := 38) rfl ?_); (try (refine gate_guard (by rfl) ?_; dsimp only)); refine Kd.R_lit Kd.string _ 9 ?hg (N := 38) ?hd (xs := ([(⟨#[33]⟩ : ByteArray), (⟨#[65]⟩ : ByteArray), (⟨#[45]⟩ : ByteArray), (⟨#[13]⟩ : ByteArray), (⟨#[0]⟩ : ByteArray), (⟨#[59]⟩ : ByteArray), (⟨#[195, 169]⟩ : ByteArray), (⟨#[95]⟩ : ByteArray)] : List ByteArray)) (inner := [.string (⟨#[33]⟩ : ByteArray), .string (⟨#[65]⟩ : ByteArray), .string (⟨#[45]⟩ : ByteArray), .string (⟨#[13]⟩ : ByteArray), .string (⟨#[0]⟩ : ByteArray), .string (⟨#[59]⟩ : ByteArray), .string (⟨#[195, 169]⟩ : ByteArray), .string (⟨#[95]⟩ : ByteArray)]) (ok := fun _ => True) (okp := fun _ => True) ?hr ?hp (fun _ hk => hk) trivial (Below.refl _ _) (Nat.le_refl _) (by simp) ?_; (case hd => rfl); (case hg => rfl); (case hr => first | (go_simp; done) | (go_simp; rfl)); (case hp => exact (Reps.one (show Kd.M Kd.string _ _ _ (⟨#[33]⟩ : ByteArray) [.string (⟨#[33]⟩ : ByteArray)] from rfl) (Reps.one (show Kd.M Kd.string _ _ _ (⟨#[65]⟩ : ByteArray) [.string (⟨#[65]⟩ : ByteArray)] from rfl) (Reps.one (show Kd.M Kd.string _ _ _ (⟨#[45]⟩ : ByteArray) [.string (⟨#[45]⟩ : ByteArray)] from rfl) (Reps.one (show Kd.M Kd.string _ _ _ (⟨#[13]⟩ : ByteArray) [.string (⟨#[13]⟩ : ByteArray)] from rfl) (Reps.one (show Kd.M Kd.string _ _ _ (⟨#[0]⟩ : ByteArray) [.string (⟨#[0]⟩ : ByteArray)] from rfl) (Reps.one (show Kd.M Kd.string _ _ _ (⟨#[59]⟩ : ByteArray) [.string (⟨#[59]⟩ : ByteArray)] from rfl) (Reps.one (show Kd.M Kd.string _ _ _ (⟨#[195, 169]⟩ : ByteArray) [.string (⟨#[195, 169]⟩ : ByteArray)] from rfl) (Reps.one (show Kd.M Kd.string _ _ _ (⟨#[95]⟩ : ByteArray) [.string (⟨#[95]⟩ : ByteArray)] from rfl) (Reps.none _ _)))))))))); intro v298 w55 ho56 hb hg_ hnew_; clear hg_ hnew_; (first | rw [← Ny297.out] at ho56 | (simp only [Int.reduceToNat] at ho56; rw [← Ny297.out] at ho56)); have n0_ := Aside0.mk (Kd.R_lower ho56 (below_size (by repeat (first | (with_reducible first | exact HB.out | apply below_alloc | apply pw_below_drewN | apply below_drew1) | exact HB.out)))); have n1_ := Aside0.mk (below_step (by repeat (first | (with_reducible first | exact HB.out | apply below_alloc | apply pw_below_drewN | apply below_drew1) | exact HB.out)) hb); clear HB; have HO299 := n0_; have HB := n1_; clear n0_ n1_; clear hb ho56) | ((with_reducible refine gate_callee (f := 10) rfl ?_); refine goesL_ (some 40) rfl rfl Tryd.func10 (by kernel_rfl) rfl #[.int .i64 a1, .int .i64 8] rfl (by (try simp only [List.map_toArray, List.map_cons, List.map_nil]); first | done | rfl | (simp only [List.length_drop, List.length_take]; rfl)) ?_; (with_reducible refine (deadboltlaw5_within.calls a1 8 t300 _ A41.out).mono ?_); rintro e w' ⟨rfl, ⟨nd, rfl⟩⟩; refine ⟨_, rfl, ?_⟩; obtain ⟨Ao57, co57, eo57⟩ := Kd.R_slice HO299.out; subst eo57; have p301 : 0 ≤ (t300 : Int) := of_decide_eq_true (by first | (with_reducible assumption) | assumption); have q301 : t300 < (y297.length : Int) := of_decide_eq_true (by first | (with_reducible assumption) | assumption); obtain ⟨ad301, e301, hx301_0⟩ := Kd.at_string (Kd.R_reads' HO299.out).2.2 t300 p301 q301; cases e301; replace p301 := eq_true p301; replace q301 := eq_true q301) | ((with_reducible refine gate_callee (f := 12) rfl ?_); refine goesL_ (some 50) rfl rfl Tryd.func12 (by kernel_rfl) rfl #[.string (((x7_1 ++ (⟨#[32]⟩ : ByteArray)) ++ (rdOf ByteArray.empty y297 t300)) ++ a2)] rfl (by (try simp only [List.map_toArray, List.map_cons, List.map_nil]); first | done | rfl | (simp only [List.length_drop, List.length_take]; rfl)) ?_; (with_reducible refine (lex_Tokens.calls (((x7_1 ++ (⟨#[32]⟩ : ByteArray)) ++ (rdOf ByteArray.empty y297 t300)) ++ a2) t302 t303 t304 _ A47.out).mono ?_); rintro e w58 ⟨v305, rfl, ho0, hb⟩; refine ⟨_, rfl, ?_⟩; have n0_ := Aside0.mk (Kd.R_below (by (with_reducible repeat (first | apply Kd.R_alloc | apply Kd.R_drewN | apply Kd.R_drew)); exact HO299.out) hb); have n1_ := Aside0.mk (Kd.R_lower ho0 (below_size (by repeat (first | (with_reducible first | exact HB.out | apply below_alloc | apply pw_below_drewN | apply below_drew1) | exact HB.out)))); have n2_ := Aside0.mk (below_step (by repeat (first | (with_reducible first | exact HB.out | apply below_alloc | apply pw_below_drewN | apply below_drew1) | exact HB.out)) hb); clear HO299; clear HB; have HO299 := n0_; have HO306 := n1_; have HB := n2_; clear n0_ n1_ n2_; (try clear hb); (try clear hb2); (try clear hk); (try clear hi); (try clear ho0)))
                          go_ret
                          exact ⟨by first | rfl | (simp [errW_none, errW_some] <;> rfl) | (simp [*, errW_none, errW_some] <;> rfl), by repeat (first | (with_reducible first | exact HB.out | apply below_alloc | apply pw_below_drewN | apply below_drew1) | exact HB.out)⟩
                      · rw [if_neg c48] at H
                        have c48b0 : (t304 == 6) = false := beq_eq_false_iff_ne.mpr c48
                        have c48b1 : (t304 != 6) = true := bne_iff_ne.mpr c48
                        obtain rfl := Option.some.inj H
                        go_wp2_with (first | ((with_reducible refine gate_dst (N := 38) rfl ?_); (try (refine gate_guard (by rfl) ?_; dsimp only)); refine Kd.R_lit Kd.string _ 9 ?hg (N := 38) ?hd (xs := ([(⟨#[33]⟩ : ByteArray), (⟨#[65]⟩ : ByteArray), (⟨#[45]⟩ : ByteArray), (⟨#[13]⟩ : ByteArray), (⟨#[0]⟩ : ByteArray), (⟨#[59]⟩ : ByteArray), (⟨#[195, 169]⟩ : ByteArray), (⟨#[95]⟩ : ByteArray)] : List ByteArray)) (inner := [.string (⟨#[33]⟩ : ByteArray), .string (⟨#[65]⟩ : ByteArray), .string (⟨#[45]⟩ : ByteArray), .string (⟨#[13]⟩ : ByteArray), .string (⟨#[0]⟩ : ByteArray), .string (⟨#[59]⟩ : ByteArray), .string (⟨#[195, 169]⟩ : ByteArray), .string (⟨#[95]⟩ : ByteArray)]) (ok := fun _ => True) (okp := fun _ => True) ?hr ?hp (fun _ hk => hk) trivial (Below.refl _ _) (Nat.le_refl _) (by simp) ?_; (case hd => rfl); (case hg => rfl); (case hr => first | (go_simp; done) | (go_simp; rfl)); (case hp => exact (Reps.one (show Kd.M Kd.string _ _ _ (⟨#[33]⟩ : ByteArray) [.string (⟨#[33]⟩ : ByteArray)] from rfl) (Reps.one (show Kd.M Kd.string _ _ _ (⟨#[65]⟩ : ByteArray) [.string (⟨#[65]⟩ : ByteArray)] from rfl) (Reps.one (show Kd.M Kd.string _ _ _ (⟨#[45]⟩ : ByteArray) [.string (⟨#[45]⟩ : ByteArray)] from rfl) (Reps.one (show Kd.M Kd.string _ _ _ (⟨#[13]⟩ : ByteArray) [.string (⟨#[13]⟩ : ByteArray)] from rfl) (Reps.one (show Kd.M Kd.string _ _ _ (⟨#[0]⟩ : ByteArray) [.string (⟨#[0]⟩ : ByteArray)] from rfl) (Reps.one (show Kd.M Kd.string _ _ _ (⟨#[59]⟩ : ByteArray) [.string (⟨#[59]⟩ : ByteArray)] from rfl) (Reps.one (show Kd.M Kd.string _ _ _ (⟨#[195, 169]⟩ : ByteArray) [.string (⟨#[195, 169]⟩ : ByteArray)] from rfl) (Reps.one (show Kd.M Kd.string _ _ _ (⟨#[95]⟩ : ByteArray) [.string (⟨#[95]⟩ : ByteArray)] from rfl) (Reps.none _ _)))))))))); intro v298 w59 ho60 hb hg_ hnew_; clear hg_ hnew_; (first | rw [← Ny297.out] at ho60 | (simp only [Int.reduceToNat] at ho60; rw [← Ny297.out] at ho60)); have n0_ := Aside0.mk (Kd.R_lower ho60 (below_size (by repeat (first | (with_reducible first | exact HB.out | apply below_alloc | apply pw_below_drewN | apply below_drew1) | exact HB.out)))); have n1_ := Aside0.mk (below_step (by repeat (first | (with_reducible first | exact HB.out | apply below_alloc | apply pw_below_drewN | apply below_drew1) | exact HB.out)) hb); clear HB; have HO299 := n0_; have HB := n1_; clear n0_ n1_; clear hb ho60) | ((with_reducible refine gate_callee (f := 10) rfl ?_); refine goesL_ (some 40) rfl rfl Tryd.func10 (by kernel_rfl) rfl #[.int .i64 a1, .int .i64 8] rfl (by (try simp only [List.map_toArray, List.map_cons, List.map_nil]); first | done | rfl | (simp only [List.length_drop, List.length_take]; rfl)) ?_; (with_reducible refine (deadboltlaw5_within.calls a1 8 t300 _ A41.out).mono ?_); rintro e w' ⟨rfl, ⟨nd, rfl⟩⟩; refine ⟨_, rfl, ?_⟩; obtain ⟨Ao61, co61, eo61⟩ := Kd.R_slice HO299.out; subst eo61; have p301 : 0 ≤ (t300 : Int) := of_decide_eq_true (by first | (with_reducible assumption) | assumption); have q301 : t300 < (y297.length : Int) := of_decide_eq_true (by first | (with_reducible assumption) | assumption); obtain ⟨ad301, e301, hx301_0⟩ := Kd.at_string (Kd.R_reads' HO299.out).2.2 t300 p301 q301; cases e301; replace p301 := eq_true p301; replace q301 := eq_true q301) | ((with_reducible refine gate_callee (f := 12) rfl ?_); refine goesL_ (some 50) rfl rfl Tryd.func12 (by kernel_rfl) rfl #[.string (((x7_1 ++ (⟨#[32]⟩ : ByteArray)) ++ (rdOf ByteArray.empty y297 t300)) ++ a2)] rfl (by (try simp only [List.map_toArray, List.map_cons, List.map_nil]); first | done | rfl | (simp only [List.length_drop, List.length_take]; rfl)) ?_; (with_reducible refine (lex_Tokens.calls (((x7_1 ++ (⟨#[32]⟩ : ByteArray)) ++ (rdOf ByteArray.empty y297 t300)) ++ a2) t302 t303 t304 _ A47.out).mono ?_); rintro e w62 ⟨v305, rfl, ho0, hb⟩; refine ⟨_, rfl, ?_⟩; have n0_ := Aside0.mk (Kd.R_below (by (with_reducible repeat (first | apply Kd.R_alloc | apply Kd.R_drewN | apply Kd.R_drew)); exact HO299.out) hb); have n1_ := Aside0.mk (Kd.R_lower ho0 (below_size (by repeat (first | (with_reducible first | exact HB.out | apply below_alloc | apply pw_below_drewN | apply below_drew1) | exact HB.out)))); have n2_ := Aside0.mk (below_step (by repeat (first | (with_reducible first | exact HB.out | apply below_alloc | apply pw_below_drewN | apply below_drew1) | exact HB.out)) hb); clear HO299; clear HB; have HO299 := n0_; have HO306 := n1_; have HB := n2_; clear n0_ n1_ n2_; (try clear hb); (try clear hb2); (try clear hk); (try clear hi); (try clear ho0)))
                        go_ret
                        exact ⟨by first | rfl | (simp [errW_none, errW_some] <;> rfl) | (simp [*, errW_none, errW_some] <;> rfl), by repeat (first | (with_reducible first | exact HB.out | apply below_alloc | apply pw_below_drewN | apply below_drew1) | exact HB.out)⟩
                    · rw [if_neg c46] at H
                      exact absurd H (by simp)
                  · rw [if_neg c45] at H
                    exact absurd H (by simp)
                · rw [if_neg c44] at H
                  exact absurd H (by simp)
              · rw [if_neg c43] at H
                exact absurd H (by simp)
            · rw [if_neg c42] at H
              exact absurd H (by simp)
  · replace c5 := Bool.eq_false_iff.mpr c5
    subst c5
    have H1 : (some false) = some r := by rw [if_neg (show ¬ (false = true) by decide)] at H; exact H
    clear H
    have H := H1
    clear H1
    obtain rfl := Option.some.inj H
    go_enter Tryd.func8, Tryd.ntmps8
    go_wp2_with (first | ((with_reducible refine gate_callee (f := 9) rfl ?_); refine goesL_ (some 13) rfl rfl Tryd.func9 (by kernel_rfl) rfl #[] rfl (by (try simp only [List.map_toArray, List.map_cons, List.map_nil]); first | done | rfl | (simp only [List.length_drop, List.length_take]; rfl)) ?_; (with_reducible refine (deadboltlaw5_known.calls  false _ A4.out (by first | exact HG.out | exact GL.drewN HG.out _ | exact GL.drewN (GL.drewN HG.out _) _ | exact GL.of_below HG.out (by repeat (first | (with_reducible first | exact HB.out | apply below_alloc | apply pw_below_drewN | apply below_drew1) | exact HB.out)))).mono ?_); rintro e w63 ⟨rfl, hb⟩; refine ⟨_, rfl, ?_⟩; have n0_ := Aside0.mk (below_step (by repeat (first | (with_reducible first | exact HB.out | apply below_alloc | apply pw_below_drewN | apply below_drew1) | exact HB.out)) hb); clear HB; have HB := n0_; clear n0_; (try clear hb); (try clear hb2); (try clear hk); (try clear hi)))
    go_ret
    exact ⟨by first | rfl | (simp [errW_none, errW_some] <;> rfl) | (simp [*, errW_none, errW_some] <;> rfl), by repeat (first | (with_reducible first | exact HB.out | apply below_alloc | apply pw_below_drewN | apply below_drew1) | exact HB.out)⟩

/-- THE ONE PURE STATEMENT of deadboltlaw5_LexFirst: yours. -/
def deadboltlaw5_LexFirst.Pure : Prop := ∀ (l0 : List Int) (a1 : Int) (a2 : ByteArray), l0.length ≤ maxLen → l0.length * 8 ≤ 140737488351232 → (∀ x ∈ l0, (Lit.int .i64 x).wf = true) → (Lit.int .i64 a1).wf = true → a2.size ≤ 140737488351232 → ∃ k, deadboltlaw5_LexFirst.f k l0 a1 a2 = some true
theorem deadboltlaw5_LexFirst.walk (P : deadboltlaw5_LexFirst.Pure) (a0 : Option Addr) (len0 cap0 : Nat) (z0 : List Int) (a1 : Int) (a2 : ByteArray) (w : World) (w0 : (a0 = none ∧ len0 = 0 ∧ cap0 = 0 ∧ z0 = []) ∨ ∃ x, a0 = some x ∧ len0 ≤ cap0 ∧ cap0 ≤ maxLen ∧ z0.length = cap0 ∧ (∀ i, i < z0.length → w.cell? (x.add i) = some (.int .i64 (z0.getD i 0))) ∧ ∀ n ∈ z0, (Lit.int .i64 n).wf = true) (y0 : len0 * 8 ≤ 140737488351232) (w1 : (Lit.int .i64 a1).wf = true) (w2 : a2.size ≤ 140737488351232) (hG : GL w) :
    Calls Tryd.prog 8 #[.slice a0 len0 cap0, .int .i64 a1, .string a2] w fun e w' => e = .returned (.bool true) ∧ Below w.heap.size w w' := by
  obtain ⟨l0, rfl, hr0, hm0, hw0, hc0⟩ := ReadsInt.ofRowC w0
  obtain ⟨k, h⟩ := P l0 a1 a2 hm0 y0 hw0 w1 w2
  refine (deadboltlaw5_LexFirst.calls k _ _ l0 a1 a2 true w (Kd.C_of_reads (d := (0 : Int)) (h1 := fun _ => rfl) hr0) hc0 h hG).mono ?_
  rintro e w' ⟨rfl, hd⟩
  exact ⟨rfl, hd⟩

end Go.Proofs.YtcabcedlnikbaaaDoor.Q
