-- written by wip/xprint.py (over the kit's print.py) out of the translation. Not trusted: Lean checks it.
import Derived.Test.YtcabcedlnikbaaaDoorQ0
import Derived.Test.YtcabcedlnikbaaaDoorQ1
import Derived.Test.YtcabcedlnikbaaaDoorLexName
import Derived.Test.YtcabcedlnikbaaaDoorLexTok
namespace Go.Proofs.YtcabcedlnikbaaaDoor.Q
open Go.RowKit Go.Proofs.YtcabcedlnikbaaaDoorW.PrintWords Go.Proofs.YtcabcedlnikbaaaDoorW.PrintLast Go.Proofs.YtcabcedlnikbaaaDoorW.PrintMore
attribute [local go_sem] max2_int min2_int max_two min_two max_three min_three max_four min_four   -- for this text's walks alone
set_option linter.unusedVariables false
set_option linter.unusedSimpArgs false

attribute [local go_sem high] eqA39
/-! ### deadboltlaw5_known: function 9 -/
def deadboltlaw5_known.f  : Option (Bool) := (lex_Tokens.f (⟨#[120, 32, 123]⟩ : ByteArray)).bind fun bt105 => (if bt105.2.2 = 0 then (if (bt105.1.length : Int) = 2 then (if 0 < (bt105.1.length : Int) then (if (((rd_T39 bt105.1 0).f0) == 1 && (((rd_T39 bt105.1 0).f1) == 0 && ((((rd_T39 bt105.1 0).f2).toList) == ([120] : List UInt8)))) = true then (if 1 < (bt105.1.length : Int) then (if (((rd_T39 bt105.1 1).f0) == 2 && (((rd_T39 bt105.1 1).f1) == 2 && ((((rd_T39 bt105.1 1).f2).toList) == ([] : List UInt8)))) = true then ((lex_Name.f (⟨#[97]⟩ : ByteArray)).bind fun t112 => (some t112)) else (some false)) else (none)) else (some false)) else (none)) else (some false)) else (some false))
set_option maxHeartbeats 8000000 in
set_option maxRecDepth 100000 in
theorem deadboltlaw5_known.calls  (r : Bool) (w : World) (h : deadboltlaw5_known.f  = some r) (hG : GL w) :
    Calls Tryd.prog 9 #[] w fun e w' => e = .returned (.bool r) ∧ Below w.heap.size w w' := by
  have HG := Aside0.mk hG
  clear hG
  have hu39 := Tryd.underlying39
  have HB := Aside0.mk (Below.refl w.heap.size w)
  have H : ((lex_Tokens.f (⟨#[120, 32, 123]⟩ : ByteArray)).bind fun bt105 => (if bt105.2.2 = 0 then (if (bt105.1.length : Int) = 2 then (if 0 < (bt105.1.length : Int) then (if (((rd_T39 bt105.1 0).f0) == 1 && (((rd_T39 bt105.1 0).f1) == 0 && ((((rd_T39 bt105.1 0).f2).toList) == ([120] : List UInt8)))) = true then (if 1 < (bt105.1.length : Int) then (if (((rd_T39 bt105.1 1).f0) == 2 && (((rd_T39 bt105.1 1).f1) == 2 && ((((rd_T39 bt105.1 1).f2).toList) == ([] : List UInt8)))) = true then ((lex_Name.f (⟨#[97]⟩ : ByteArray)).bind fun t112 => (some t112)) else (some false)) else (none)) else (some false)) else (none)) else (some false)) else (some false))) = some r := h
  clear h
  replace H := Option.bind_eq_some_iff.mp H
  obtain ⟨⟨t105, t106, t107⟩, A10, H⟩ := H
  replace H : (if t107 = 0 then (if (t105.length : Int) = 2 then (if 0 < (t105.length : Int) then (if (((rd_T39 t105 0).f0) == 1 && (((rd_T39 t105 0).f1) == 0 && ((((rd_T39 t105 0).f2).toList) == ([120] : List UInt8)))) = true then (if 1 < (t105.length : Int) then (if (((rd_T39 t105 1).f0) == 2 && (((rd_T39 t105 1).f1) == 2 && ((((rd_T39 t105 1).f2).toList) == ([] : List UInt8)))) = true then ((lex_Name.f (⟨#[97]⟩ : ByteArray)).bind fun t112 => (some t112)) else (some false)) else (none)) else (some false)) else (none)) else (some false)) else (some false)) = some r := H
  have A1 := Aside0.mk A10
  clear A10
  by_cases c2 : t107 = 0
  · rw [if_pos c2] at H
    have c2b0 : (t107 == 0) = true := beq_iff_eq.mpr c2
    have c2b1 : (t107 != 0) = false := bne_eq_false_iff_eq.mpr c2
    clear c2
    by_cases c3 : (t105.length : Int) = 2
    · rw [if_pos c3] at H
      have c3b0 : ((t105.length : Int) == 2) = true := beq_iff_eq.mpr c3
      have c3b1 : ((t105.length : Int) != 2) = false := bne_eq_false_iff_eq.mpr c3
      clear c3
      by_cases c4 : 0 < (t105.length : Int)
      · rw [if_pos c4] at H
        have c4b0 : decide (0 < (t105.length : Int)) = true := decide_eq_true c4
        have c4b1 : decide (0 < t105.length) = true := decide_eq_true (by omega)
        clear c4
        by_cases c5 : (((rd_T39 t105 0).f0) == 1 && (((rd_T39 t105 0).f1) == 0 && ((((rd_T39 t105 0).f2).toList) == ([120] : List UInt8)))) = true
        · rw [if_pos c5] at H
          have c5b0 : (((rd_T39 t105 0).f0) == 1 && (((rd_T39 t105 0).f1) == 0 && ((((rd_T39 t105 0).f2).toList) == ([120] : List UInt8)))) = true := c5
          (try (have c5b1 : decide (((rd_T39 t105 0).f0) = 1 && (((rd_T39 t105 0).f1) == 0 && ((((rd_T39 t105 0).f2).toList) == ([120] : List UInt8)))) = true := by simpa using c5))
          (try (have c5b2 : (((rd_T39 t105 0).f0) == 1 && (((rd_T39 t105 0).f1) == 0 && ((((rd_T39 t105 0).f2).toList) == ([120] : List UInt8)))) = true := by simpa using c5))
          clear c5
          by_cases c6 : 1 < (t105.length : Int)
          · rw [if_pos c6] at H
            have c6b0 : decide (1 < (t105.length : Int)) = true := decide_eq_true c6
            have c6b1 : decide (1 < t105.length) = true := decide_eq_true (by omega)
            clear c6
            by_cases c7 : (((rd_T39 t105 1).f0) == 2 && (((rd_T39 t105 1).f1) == 2 && ((((rd_T39 t105 1).f2).toList) == ([] : List UInt8)))) = true
            · rw [if_pos c7] at H
              have c7b0 : (((rd_T39 t105 1).f0) == 2 && (((rd_T39 t105 1).f1) == 2 && ((((rd_T39 t105 1).f2).toList) == ([] : List UInt8)))) = true := c7
              (try (have c7e0 : (((rd_T39 t105 1).f0) == 2 && (((rd_T39 t105 1).f1) == 2 && ((((rd_T39 t105 1).f2).toList).isEmpty))) = true := by have h_ := c7b0; simp only [beq_nil_isEmpty] at h_; exact h_))
              (try (have c7b1 : decide (((rd_T39 t105 1).f0) = 2 && (((rd_T39 t105 1).f1) == 2 && ((((rd_T39 t105 1).f2).toList) == ([] : List UInt8)))) = true := by simpa using c7))
              (try (have c7b2 : (((rd_T39 t105 1).f0) == 2 && (((rd_T39 t105 1).f1) == 2 && ((((rd_T39 t105 1).f2).toList) == ([] : List UInt8)))) = true := by simpa using c7))
              clear c7
              replace H := Option.bind_eq_some_iff.mp H
              obtain ⟨t112, A80, H⟩ := H
              replace H : (some t112) = some r := H
              have A8 := Aside0.mk A80
              clear A80
              obtain rfl := Option.some.inj H
              go_enter Tryd.func9, Tryd.ntmps9
              go_wp2_with (first | ((with_reducible refine gate_callee (f := 12) rfl ?_); refine goesL_ (some 5) rfl rfl Tryd.func12 (by kernel_rfl) rfl #[.string (⟨#[120, 32, 123]⟩ : ByteArray)] rfl (by (try simp only [List.map_toArray, List.map_cons, List.map_nil]); first | done | rfl | (simp only [List.length_drop, List.length_take]; rfl)) ?_; (with_reducible refine (lex_Tokens.calls (⟨#[120, 32, 123]⟩ : ByteArray) t105 t106 t107 _ A1.out).mono ?_); rintro e w9 ⟨v108, rfl, ho0, hb⟩; refine ⟨_, rfl, ?_⟩; have n0_ := Aside0.mk (Kd.R_lower ho0 (below_size (by repeat (first | (with_reducible first | exact HB.out | apply below_alloc | apply pw_below_drewN | apply below_drew1) | exact HB.out)))); have n1_ := Aside0.mk (below_step (by repeat (first | (with_reducible first | exact HB.out | apply below_alloc | apply pw_below_drewN | apply below_drew1) | exact HB.out)) hb); clear HB; have HO109 := n0_; have HB := n1_; clear n0_ n1_; (try clear hb); (try clear hb2); (try clear hk); (try clear hi); (try clear ho0); obtain ⟨Ao10, co10, eo10⟩ := Kd.R_slice HO109.out; subst eo10; have p110 : 0 ≤ (0 : Int) := (by omega); have q110 : 0 < (t105.length : Int) := of_decide_eq_true (by first | (with_reducible assumption) | assumption); obtain ⟨ad110, e110, hx110_0, hx110_1, hx110_2⟩ := at_T39 (Kd.R_reads' HO109.out).2.2 0 p110 q110; cases e110; have qi110 : (0 < t105.length) = True := eq_true (by omega); (try rw [show ((0 : Int)).toNat = 0 from rfl] at hx110_0); (try rw [show 0 * 3 = 0 from rfl] at hx110_0); (try rw [Addr.add_zero'] at hx110_0); (try rw [show ((0 : Int)).toNat = 0 from rfl] at hx110_1); (try rw [show 0 * 3 = 0 from rfl] at hx110_1); (try rw [Addr.add_zero'] at hx110_1); (try rw [show ((0 : Int)).toNat = 0 from rfl] at hx110_2); (try rw [show 0 * 3 = 0 from rfl] at hx110_2); (try rw [Addr.add_zero'] at hx110_2); replace p110 := eq_true p110; replace q110 := eq_true q110; have p111 : 0 ≤ (1 : Int) := (by omega); have q111 : 1 < (t105.length : Int) := of_decide_eq_true (by first | (with_reducible assumption) | assumption); obtain ⟨ad111, e111, hx111_0, hx111_1, hx111_2⟩ := at_T39 (Kd.R_reads' HO109.out).2.2 1 p111 q111; obtain rfl : ad110 = ad111 := (by injection e111); (try simp only [show (1 : Int).toNat = 1 from rfl, Nat.reduceMul, Nat.reduceEqDiff, Go.Addr.add, ↓reduceIte] at hx111_0); (try simp only [show (1 : Int).toNat = 1 from rfl, Nat.reduceMul, Nat.reduceEqDiff, Go.Addr.add, ↓reduceIte] at hx111_1); (try simp only [show (1 : Int).toNat = 1 from rfl, Nat.reduceMul, Nat.reduceEqDiff, Go.Addr.add, ↓reduceIte] at hx111_2); have qi111 : (1 < t105.length) = True := eq_true (by omega); (try rw [show ((1 : Int)).toNat = 1 from rfl] at hx111_0); (try rw [show 1 * 3 = 3 from rfl] at hx111_0); (try rw [show ((1 : Int)).toNat = 1 from rfl] at hx111_1); (try rw [show 1 * 3 = 3 from rfl] at hx111_1); (try rw [show ((1 : Int)).toNat = 1 from rfl] at hx111_2); (try rw [show 1 * 3 = 3 from rfl] at hx111_2); replace p111 := eq_true p111; replace q111 := eq_true q111) | (go_at_call 15; (with_reducible refine (lex_Name.calls (⟨#[97]⟩ : ByteArray) t112 _ A8.out (by first | exact HG.out | exact GL.drewN HG.out _ | exact GL.drewN (GL.drewN HG.out _) _ | exact GL.of_below HG.out (by repeat (first | (with_reducible first | exact HB.out | apply below_alloc | apply pw_below_drewN | apply below_drew1) | exact HB.out)))).mono ?_); rintro e w11 ⟨rfl, hb⟩; have n0_ := Aside0.mk (Kd.R_below (by (with_reducible repeat (first | apply Kd.R_alloc | apply Kd.R_drewN | apply Kd.R_drew)); exact HO109.out) hb); have n1_ := Aside0.mk (below_step (by repeat (first | (with_reducible first | exact HB.out | apply below_alloc | apply pw_below_drewN | apply below_drew1) | exact HB.out)) hb); clear HO109; clear HB; have HO109 := n0_; have HB := n1_; clear n0_ n1_; (try clear hb); (try clear hb2); (try clear hk); (try clear hi)))
              go_ret
              exact ⟨by first | rfl | (simp [errW_none, errW_some] <;> rfl) | (simp [*, errW_none, errW_some] <;> rfl), by repeat (first | (with_reducible first | exact HB.out | apply below_alloc | apply pw_below_drewN | apply below_drew1) | exact HB.out)⟩
            · rw [if_neg c7] at H
              have c7b0 : (((rd_T39 t105 1).f0) == 2 && (((rd_T39 t105 1).f1) == 2 && ((((rd_T39 t105 1).f2).toList) == ([] : List UInt8)))) = false := by simpa using c7
              (try (have c7e0 : (((rd_T39 t105 1).f0) == 2 && (((rd_T39 t105 1).f1) == 2 && ((((rd_T39 t105 1).f2).toList).isEmpty))) = false := by have h_ := c7b0; simp only [beq_nil_isEmpty] at h_; exact h_))
              (try (have c7b1 : decide (((rd_T39 t105 1).f0) = 2 && (((rd_T39 t105 1).f1) == 2 && ((((rd_T39 t105 1).f2).toList) == ([] : List UInt8)))) = false := by simpa using c7))
              (try (have c7b2 : (((rd_T39 t105 1).f0) == 2 && (((rd_T39 t105 1).f1) == 2 && ((((rd_T39 t105 1).f2).toList) == ([] : List UInt8)))) = false := by simpa using c7))
              (try (have c7b3 : ¬ (((rd_T39 t105 1).f0) = 2 && (((rd_T39 t105 1).f1) == 2 && ((((rd_T39 t105 1).f2).toList) == ([] : List UInt8)))) := by simpa using c7))
              clear c7
              obtain rfl := Option.some.inj H
              go_enter Tryd.func9, Tryd.ntmps9
              go_wp2_with (first | ((with_reducible refine gate_callee (f := 12) rfl ?_); refine goesL_ (some 5) rfl rfl Tryd.func12 (by kernel_rfl) rfl #[.string (⟨#[120, 32, 123]⟩ : ByteArray)] rfl (by (try simp only [List.map_toArray, List.map_cons, List.map_nil]); first | done | rfl | (simp only [List.length_drop, List.length_take]; rfl)) ?_; (with_reducible refine (lex_Tokens.calls (⟨#[120, 32, 123]⟩ : ByteArray) t105 t106 t107 _ A1.out).mono ?_); rintro e w12 ⟨v108, rfl, ho0, hb⟩; refine ⟨_, rfl, ?_⟩; have n0_ := Aside0.mk (Kd.R_lower ho0 (below_size (by repeat (first | (with_reducible first | exact HB.out | apply below_alloc | apply pw_below_drewN | apply below_drew1) | exact HB.out)))); have n1_ := Aside0.mk (below_step (by repeat (first | (with_reducible first | exact HB.out | apply below_alloc | apply pw_below_drewN | apply below_drew1) | exact HB.out)) hb); clear HB; have HO109 := n0_; have HB := n1_; clear n0_ n1_; (try clear hb); (try clear hb2); (try clear hk); (try clear hi); (try clear ho0); obtain ⟨Ao13, co13, eo13⟩ := Kd.R_slice HO109.out; subst eo13; have p110 : 0 ≤ (0 : Int) := (by omega); have q110 : 0 < (t105.length : Int) := of_decide_eq_true (by first | (with_reducible assumption) | assumption); obtain ⟨ad110, e110, hx110_0, hx110_1, hx110_2⟩ := at_T39 (Kd.R_reads' HO109.out).2.2 0 p110 q110; cases e110; have qi110 : (0 < t105.length) = True := eq_true (by omega); (try rw [show ((0 : Int)).toNat = 0 from rfl] at hx110_0); (try rw [show 0 * 3 = 0 from rfl] at hx110_0); (try rw [Addr.add_zero'] at hx110_0); (try rw [show ((0 : Int)).toNat = 0 from rfl] at hx110_1); (try rw [show 0 * 3 = 0 from rfl] at hx110_1); (try rw [Addr.add_zero'] at hx110_1); (try rw [show ((0 : Int)).toNat = 0 from rfl] at hx110_2); (try rw [show 0 * 3 = 0 from rfl] at hx110_2); (try rw [Addr.add_zero'] at hx110_2); replace p110 := eq_true p110; replace q110 := eq_true q110; have p111 : 0 ≤ (1 : Int) := (by omega); have q111 : 1 < (t105.length : Int) := of_decide_eq_true (by first | (with_reducible assumption) | assumption); obtain ⟨ad111, e111, hx111_0, hx111_1, hx111_2⟩ := at_T39 (Kd.R_reads' HO109.out).2.2 1 p111 q111; obtain rfl : ad110 = ad111 := (by injection e111); (try simp only [show (1 : Int).toNat = 1 from rfl, Nat.reduceMul, Nat.reduceEqDiff, Go.Addr.add, ↓reduceIte] at hx111_0); (try simp only [show (1 : Int).toNat = 1 from rfl, Nat.reduceMul, Nat.reduceEqDiff, Go.Addr.add, ↓reduceIte] at hx111_1); (try simp only [show (1 : Int).toNat = 1 from rfl, Nat.reduceMul, Nat.reduceEqDiff, Go.Addr.add, ↓reduceIte] at hx111_2); have qi111 : (1 < t105.length) = True := eq_true (by omega); (try rw [show ((1 : Int)).toNat = 1 from rfl] at hx111_0); (try rw [show 1 * 3 = 3 from rfl] at hx111_0); (try rw [show ((1 : Int)).toNat = 1 from rfl] at hx111_1); (try rw [show 1 * 3 = 3 from rfl] at hx111_1); (try rw [show ((1 : Int)).toNat = 1 from rfl] at hx111_2); (try rw [show 1 * 3 = 3 from rfl] at hx111_2); replace p111 := eq_true p111; replace q111 := eq_true q111))
              go_ret
              exact ⟨by first | rfl | (simp [errW_none, errW_some] <;> rfl) | (simp [*, errW_none, errW_some] <;> rfl), by repeat (first | (with_reducible first | exact HB.out | apply below_alloc | apply pw_below_drewN | apply below_drew1) | exact HB.out)⟩
          · rw [if_neg c6] at H
            exact absurd H (by simp)
        · rw [if_neg c5] at H
          have c5b0 : (((rd_T39 t105 0).f0) == 1 && (((rd_T39 t105 0).f1) == 0 && ((((rd_T39 t105 0).f2).toList) == ([120] : List UInt8)))) = false := by simpa using c5
          (try (have c5b1 : decide (((rd_T39 t105 0).f0) = 1 && (((rd_T39 t105 0).f1) == 0 && ((((rd_T39 t105 0).f2).toList) == ([120] : List UInt8)))) = false := by simpa using c5))
          (try (have c5b2 : (((rd_T39 t105 0).f0) == 1 && (((rd_T39 t105 0).f1) == 0 && ((((rd_T39 t105 0).f2).toList) == ([120] : List UInt8)))) = false := by simpa using c5))
          (try (have c5b3 : ¬ (((rd_T39 t105 0).f0) = 1 && (((rd_T39 t105 0).f1) == 0 && ((((rd_T39 t105 0).f2).toList) == ([120] : List UInt8)))) := by simpa using c5))
          clear c5
          obtain rfl := Option.some.inj H
          go_enter Tryd.func9, Tryd.ntmps9
          go_wp2_with (first | ((with_reducible refine gate_callee (f := 12) rfl ?_); refine goesL_ (some 5) rfl rfl Tryd.func12 (by kernel_rfl) rfl #[.string (⟨#[120, 32, 123]⟩ : ByteArray)] rfl (by (try simp only [List.map_toArray, List.map_cons, List.map_nil]); first | done | rfl | (simp only [List.length_drop, List.length_take]; rfl)) ?_; (with_reducible refine (lex_Tokens.calls (⟨#[120, 32, 123]⟩ : ByteArray) t105 t106 t107 _ A1.out).mono ?_); rintro e w14 ⟨v108, rfl, ho0, hb⟩; refine ⟨_, rfl, ?_⟩; have n0_ := Aside0.mk (Kd.R_lower ho0 (below_size (by repeat (first | (with_reducible first | exact HB.out | apply below_alloc | apply pw_below_drewN | apply below_drew1) | exact HB.out)))); have n1_ := Aside0.mk (below_step (by repeat (first | (with_reducible first | exact HB.out | apply below_alloc | apply pw_below_drewN | apply below_drew1) | exact HB.out)) hb); clear HB; have HO109 := n0_; have HB := n1_; clear n0_ n1_; (try clear hb); (try clear hb2); (try clear hk); (try clear hi); (try clear ho0); obtain ⟨Ao15, co15, eo15⟩ := Kd.R_slice HO109.out; subst eo15; have p110 : 0 ≤ (0 : Int) := (by omega); have q110 : 0 < (t105.length : Int) := of_decide_eq_true (by first | (with_reducible assumption) | assumption); obtain ⟨ad110, e110, hx110_0, hx110_1, hx110_2⟩ := at_T39 (Kd.R_reads' HO109.out).2.2 0 p110 q110; cases e110; have qi110 : (0 < t105.length) = True := eq_true (by omega); (try rw [show ((0 : Int)).toNat = 0 from rfl] at hx110_0); (try rw [show 0 * 3 = 0 from rfl] at hx110_0); (try rw [Addr.add_zero'] at hx110_0); (try rw [show ((0 : Int)).toNat = 0 from rfl] at hx110_1); (try rw [show 0 * 3 = 0 from rfl] at hx110_1); (try rw [Addr.add_zero'] at hx110_1); (try rw [show ((0 : Int)).toNat = 0 from rfl] at hx110_2); (try rw [show 0 * 3 = 0 from rfl] at hx110_2); (try rw [Addr.add_zero'] at hx110_2); replace p110 := eq_true p110; replace q110 := eq_true q110))
          go_ret
          exact ⟨by first | rfl | (simp [errW_none, errW_some] <;> rfl) | (simp [*, errW_none, errW_some] <;> rfl), by repeat (first | (with_reducible first | exact HB.out | apply below_alloc | apply pw_below_drewN | apply below_drew1) | exact HB.out)⟩
      · rw [if_neg c4] at H
        exact absurd H (by simp)
    · rw [if_neg c3] at H
      have c3b0 : ((t105.length : Int) == 2) = false := beq_eq_false_iff_ne.mpr c3
      have c3b1 : ((t105.length : Int) != 2) = true := bne_iff_ne.mpr c3
      obtain rfl := Option.some.inj H
      go_enter Tryd.func9, Tryd.ntmps9
      go_wp2_with (first | ((with_reducible refine gate_callee (f := 12) rfl ?_); refine goesL_ (some 5) rfl rfl Tryd.func12 (by kernel_rfl) rfl #[.string (⟨#[120, 32, 123]⟩ : ByteArray)] rfl (by (try simp only [List.map_toArray, List.map_cons, List.map_nil]); first | done | rfl | (simp only [List.length_drop, List.length_take]; rfl)) ?_; (with_reducible refine (lex_Tokens.calls (⟨#[120, 32, 123]⟩ : ByteArray) t105 t106 t107 _ A1.out).mono ?_); rintro e w16 ⟨v108, rfl, ho0, hb⟩; refine ⟨_, rfl, ?_⟩; have n0_ := Aside0.mk (Kd.R_lower ho0 (below_size (by repeat (first | (with_reducible first | exact HB.out | apply below_alloc | apply pw_below_drewN | apply below_drew1) | exact HB.out)))); have n1_ := Aside0.mk (below_step (by repeat (first | (with_reducible first | exact HB.out | apply below_alloc | apply pw_below_drewN | apply below_drew1) | exact HB.out)) hb); clear HB; have HO109 := n0_; have HB := n1_; clear n0_ n1_; (try clear hb); (try clear hb2); (try clear hk); (try clear hi); (try clear ho0); obtain ⟨Ao17, co17, eo17⟩ := Kd.R_slice HO109.out; subst eo17))
      go_ret
      exact ⟨by first | rfl | (simp [errW_none, errW_some] <;> rfl) | (simp [*, errW_none, errW_some] <;> rfl), by repeat (first | (with_reducible first | exact HB.out | apply below_alloc | apply pw_below_drewN | apply below_drew1) | exact HB.out)⟩
  · rw [if_neg c2] at H
    have c2b0 : (t107 == 0) = false := beq_eq_false_iff_ne.mpr c2
    have c2b1 : (t107 != 0) = true := bne_iff_ne.mpr c2
    obtain rfl := Option.some.inj H
    go_enter Tryd.func9, Tryd.ntmps9
    go_wp2_with (first | ((with_reducible refine gate_callee (f := 12) rfl ?_); refine goesL_ (some 5) rfl rfl Tryd.func12 (by kernel_rfl) rfl #[.string (⟨#[120, 32, 123]⟩ : ByteArray)] rfl (by (try simp only [List.map_toArray, List.map_cons, List.map_nil]); first | done | rfl | (simp only [List.length_drop, List.length_take]; rfl)) ?_; (with_reducible refine (lex_Tokens.calls (⟨#[120, 32, 123]⟩ : ByteArray) t105 t106 t107 _ A1.out).mono ?_); rintro e w18 ⟨v108, rfl, ho0, hb⟩; refine ⟨_, rfl, ?_⟩; have n0_ := Aside0.mk (Kd.R_lower ho0 (below_size (by repeat (first | (with_reducible first | exact HB.out | apply below_alloc | apply pw_below_drewN | apply below_drew1) | exact HB.out)))); have n1_ := Aside0.mk (below_step (by repeat (first | (with_reducible first | exact HB.out | apply below_alloc | apply pw_below_drewN | apply below_drew1) | exact HB.out)) hb); clear HB; have HO109 := n0_; have HB := n1_; clear n0_ n1_; (try clear hb); (try clear hb2); (try clear hk); (try clear hi); (try clear ho0)))
    go_ret
    exact ⟨by first | rfl | (simp [errW_none, errW_some] <;> rfl) | (simp [*, errW_none, errW_some] <;> rfl), by repeat (first | (with_reducible first | exact HB.out | apply below_alloc | apply pw_below_drewN | apply below_drew1) | exact HB.out)⟩

end Go.Proofs.YtcabcedlnikbaaaDoor.Q
