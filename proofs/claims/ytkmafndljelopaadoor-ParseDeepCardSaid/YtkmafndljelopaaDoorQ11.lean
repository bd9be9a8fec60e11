-- written by wip/xprint.py (over the kit's print.py) out of the translation. Not trusted: Lean checks it.
import Derived.Test.YtkmafndljelopaaDoorQ0
import Derived.Test.YtkmafndljelopaaDoorParWord
namespace Go.Proofs.YtkmafndljelopaaDoor.Q
open Go.RowKit Go.Proofs.YtkmafndljelopaaDoorW.PrintWords Go.Proofs.YtkmafndljelopaaDoorW.PrintLast Go.Proofs.YtkmafndljelopaaDoorW.PrintMore
attribute [local go_sem] max2_int min2_int max_two min_two max_three min_three max_four min_four   -- for this text's walks alone
set_option linter.unusedVariables false
set_option linter.unusedSimpArgs false

/-! ### parse_words: function 49 -/
mutual
def parse_words.l0 : Nat → List ByteArray → List (S86) → Int → Int → Option (List ByteArray)
  | 0, _, _, _, _ => none
  | k + 1, x3, x7, x8, x9 => if x9 < x8 then (if 0 ≤ x9 then (if x9 < (x7.length : Int) then ((parse_word.f ((rd_T86 x7 x9).f0)).bind fun t144 => (if x3.length < 8796093022208 then ((some (x3 ++ [t144] : List ByteArray)).bind fun y145 => (if ((rd_T86 x7 x9).f0) = 8 then ((parse_words.f k ((rd_T86 x7 x9).f3)).bind fun t148 => (if y145.length + t148.length < 8796093022208 then (parse_words.l0 k (y145 ++ t148) x7 x8 (wrap64 (x9 + 1))) else (none))) else (if ((rd_T86 x7 x9).f0) = 7 then ((parse_words.f k ((rd_T86 x7 x9).f3)).bind fun t154 => (if y145.length + t154.length < 8796093022208 then ((some (y145 ++ t154 : List ByteArray)).bind fun y157 => (if (((rd_T86 x7 x9).f4).length : Int) > 0 then (if y157.length < 8796093022208 then ((some (y157 ++ [(⟨#[101, 108, 115, 101]⟩ : ByteArray)] : List ByteArray)).bind fun y160 => ((parse_words.f k ((rd_T86 x7 x9).f4)).bind fun t163 => (if y160.length + t163.length < 8796093022208 then (parse_words.l0 k (y160 ++ t163) x7 x8 (wrap64 (x9 + 1))) else (none)))) else (none)) else (parse_words.l0 k y157 x7 x8 (wrap64 (x9 + 1))))) else (none))) else (if y145.length < 8796093022208 then (parse_words.l0 k (y145 ++ [(rd_T86 x7 x9).f2]) x7 x8 (wrap64 (x9 + 1))) else (none))))) else (none))) else (none)) else (none)) else (if x3.length < 8796093022208 then (some (x3 ++ [(⟨#[125]⟩ : ByteArray)])) else (none))
def parse_words.f : Nat → List (S86) → Option (List ByteArray)
  | 0, _ => none
  | k + 1, l0 => parse_words.l0 k (([(⟨#[123]⟩ : ByteArray)] : List ByteArray)) l0 (l0.length : Int) 0
end
theorem parse_words.mono_l : ∀ k, (∀ y0, LeO (parse_words.f k y0) (parse_words.f (k + 1) y0)) ∧ (∀ y0 y1 y2 y3, LeO (parse_words.l0 k y0 y1 y2 y3) (parse_words.l0 (k + 1) y0 y1 y2 y3))
  | 0 => ⟨fun _ r h => by simp [parse_words.f] at h, fun _ _ _ _ r h => by simp [parse_words.l0] at h⟩
  | k + 1 => by
    obtain ⟨ih0, ih1⟩ := parse_words.mono_l k
    refine ⟨?_, ?_⟩
    · intro y0
      unfold parse_words.f
      repeat' first
      | (with_reducible exact ih0 _)
      | (with_reducible exact ih1 _ _ _ _)
      | (with_reducible exact LeO.refl _)
      | (with_reducible exact LeO.none _)
      | (with_reducible refine LeO.ite ?_ ?_)
      | (with_reducible refine LeO.bind ?_ (fun _ => ?_))
      | exact ih0 _
      | exact ih1 _ _ _ _
      | exact LeO.none _
      | refine LeO.ite ?_ ?_
      | refine LeO.bind ?_ (fun _ => ?_)
    · intro y0 y1 y2 y3
      unfold parse_words.l0
      repeat' first
      | (with_reducible exact ih0 _)
      | (with_reducible exact ih1 _ _ _ _)
      | (with_reducible exact LeO.refl _)
      | (with_reducible exact LeO.none _)
      | (with_reducible refine LeO.ite ?_ ?_)
      | (with_reducible refine LeO.bind ?_ (fun _ => ?_))
      | exact ih0 _
      | exact ih1 _ _ _ _
      | exact LeO.none _
      | refine LeO.ite ?_ ?_
      | refine LeO.bind ?_ (fun _ => ?_)
theorem parse_words.mono : ∀ a0 k, LeO (parse_words.f k a0) (parse_words.f (k + 1) a0) := by
  intro a0 k
  obtain ⟨ih0, ih1⟩ := parse_words.mono_l k
  exact ih0 a0
def parse_words.T13 : Bool × List (List Nat × List Nat) := (true, [([], []), ([], []), ([0, 1], [0, 1]), ([], []), ([3], [3]), ([4, 2], [4]), ([2, 5, 5], [2, 5]), ([6, 6, 0, 1, 2, 3, 4, 5, 6], [0, 6])])
def parse_words.B13 : List Nat := [0, 0, 3, 0, 8, 31, 63, 127]
theorem parse_words.tab13 : rtab .any (opsOf Tryd.f49 13) = parse_words.T13 := by kernel_rfl
theorem parse_words.bits13 : waitsOk parse_words.T13.2 parse_words.B13 = true := by kernel_rfl
set_option maxHeartbeats 8000000 in
set_option maxRecDepth 100000 in
theorem parse_words.calls (k : Nat) : ∀ (A0 : Option Addr) (c0 : Nat) (l0 : List (S86)) (r : List ByteArray) (w : World) (hr0 : Kd.C k86 w A0 l0.length l0) (hc0 : l0.length ≤ c0) (h : parse_words.f k l0 = some r) (hG : GL w),
    Calls Tryd.prog 49 #[.slice A0 l0.length c0] w fun e w' => ∃ v0_ : Value, e = .returned (v0_) ∧ Kd.R Kd.string 9 w' w.heap.size (fun _ => True) v0_ r ∧ Below w.heap.size w w' := by
  induction k using Nat.strongRecOn with
  | _ k ih =>
  intro A0 c0 l0 r w hr0 hc0 h hG
  have HG := Aside0.mk hG
  clear hG
  cases k with
  | zero => exact absurd h (by simp [parse_words.f])
  | succ k =>
  simp only [parse_words.f] at h
  have hu86 := Tryd.underlying86
  have HR0 := Aside0.mk hr0
  have HC0 := Aside0.mk hc0
  clear hr0 hc0
  have HB := Aside0.mk (Below.refl w.heap.size w)
  have H : (parse_words.l0 k (([(⟨#[123]⟩ : ByteArray)] : List ByteArray)) l0 (l0.length : Int) 0) = some r := h
  clear h
  obtain ⟨y136, hy136⟩ : ∃ y_ : List ByteArray, y_ = (([(⟨#[123]⟩ : ByteArray)] : List ByteArray)) := ⟨_, rfl⟩
  replace H : (parse_words.l0 k y136 l0 (l0.length : Int) 0) = some r := by first | (rw [hy136]; with_reducible exact H) | (have H2_ := (Option.bind_some _ _).symm.trans H; rw [hy136]; with_reducible exact H2_) | (have H2_ := (Option.bind_some _ _).symm.trans H; with_reducible exact H2_) | with_reducible exact H | (rw [hy136]; exact H) | exact H
  have Ny136 := Aside0.mk hy136
  clear hy136
  have H' := Aside0.mk H
  clear H
  go_enter Tryd.func49, Tryd.ntmps49
  go_wp2_with (first | ((with_reducible refine gate_dst (N := 6) rfl ?_); refine Kd.R_lit Kd.string _ 9 ?hg (N := 6) ?hd (xs := ([(⟨#[123]⟩ : ByteArray)] : List ByteArray)) (inner := [.string (⟨#[123]⟩ : ByteArray)]) (ok := fun _ => True) (okp := fun _ => True) ?hr ?hp (fun _ hk => hk) trivial (Below.refl _ _) (Nat.le_refl _) (by simp) ?_; (case hd => rfl); (case hg => rfl); (case hr => first | (go_simp; done) | (go_simp; rfl)); (case hp => exact (Reps.one (show Kd.M Kd.string _ _ _ (⟨#[123]⟩ : ByteArray) [.string (⟨#[123]⟩ : ByteArray)] from rfl) (Reps.none _ _))); intro v137 w2 ho3 hb hg_ hnew_; clear hg_ hnew_; (first | rw [← Ny136.out] at ho3 | (simp only [Int.reduceToNat] at ho3; rw [← Ny136.out] at ho3)); have n0_ := Aside0.mk (Kd.R_lower ho3 (below_size (by repeat (first | (with_reducible first | exact HB.out | apply below_alloc | apply pw_below_drewN | apply below_drew1) | exact HB.out)))); have n1_ := Aside0.mk (below_step (by repeat (first | (with_reducible first | exact HB.out | apply below_alloc | apply pw_below_drewN | apply below_drew1) | exact HB.out)) hb); clear HB; have HO138 := n0_; have HB := n1_; clear n0_ n1_; clear hb ho3))
  go_loopg [3, 9] k (fun kq v3 v9 w' => ∃ (x3_1 : List ByteArray) (x9_1 : Int), v9 = .int .i64 x9_1 ∧ Aside0 (parse_words.l0 kq x3_1 l0 (l0.length : Int) x9_1 = some r) ∧ Aside0 (kq ≤ k) ∧ Aside0 (Kd.R Kd.string 9 w' w.heap.size (fun _ => True) v3 x3_1) ∧ Aside0 (Below w.heap.size w w'))
  case atStart => exact ⟨(y136), (0), (by first | rfl | (simp; done) | (simp [*]; done)), H', ⟨Nat.le_refl _⟩, ⟨by (with_reducible repeat (first | apply Kd.R_alloc | apply Kd.R_drewN | apply Kd.R_drew)); exact HO138.out⟩, ⟨by repeat (first | (with_reducible first | exact HB.out | apply below_alloc | apply pw_below_drewN | apply below_drew1) | exact HB.out)⟩⟩
  case round =>
    clear H'
    try clear p2
    obtain ⟨x3_1, x9_1, rfl, HA, HK1, HO_3, HB⟩ := hrel
    cases gk with
    | zero => exact absurd HA.out (by simp [parse_words.l0])
    | succ k1 =>
      have H := HA.out
      clear HA
      simp only [parse_words.l0] at H
      by_cases c4 : x9_1 < (l0.length : Int)
      · rw [if_pos c4] at H
        have c4b0 : decide (x9_1 < (l0.length : Int)) = true := decide_eq_true c4
        clear c4
        by_cases c5 : 0 ≤ x9_1
        · rw [if_pos c5] at H
          have c5b0 : decide (0 ≤ x9_1) = true := decide_eq_true c5
          clear c5
          by_cases c6 : x9_1 < (l0.length : Int)
          · rw [if_pos c6] at H
            have c6b0 : decide (x9_1 < (l0.length : Int)) = true := decide_eq_true c6
            clear c6
            replace H := Option.bind_eq_some_iff.mp H
            obtain ⟨t144, A70, H⟩ := H
            replace H : (if x3_1.length < 8796093022208 then ((some (x3_1 ++ [t144] : List ByteArray)).bind fun y145 => (if ((rd_T86 l0 x9_1).f0) = 8 then ((parse_words.f k1 ((rd_T86 l0 x9_1).f3)).bind fun t148 => (if y145.length + t148.length < 8796093022208 then (parse_words.l0 k1 (y145 ++ t148) l0 (l0.length : Int) (wrap64 (x9_1 + 1))) else (none))) else (if ((rd_T86 l0 x9_1).f0) = 7 then ((parse_words.f k1 ((rd_T86 l0 x9_1).f3)).bind fun t154 => (if y145.length + t154.length < 8796093022208 then ((some (y145 ++ t154 : List ByteArray)).bind fun y157 => (if (((rd_T86 l0 x9_1).f4).length : Int) > 0 then (if y157.length < 8796093022208 then ((some (y157 ++ [(⟨#[101, 108, 115, 101]⟩ : ByteArray)] : List ByteArray)).bind fun y160 => ((parse_words.f k1 ((rd_T86 l0 x9_1).f4)).bind fun t163 => (if y160.length + t163.length < 8796093022208 then (parse_words.l0 k1 (y160 ++ t163) l0 (l0.length : Int) (wrap64 (x9_1 + 1))) else (none)))) else (none)) else (parse_words.l0 k1 y157 l0 (l0.length : Int) (wrap64 (x9_1 + 1))))) else (none))) else (if y145.length < 8796093022208 then (parse_words.l0 k1 (y145 ++ [(rd_T86 l0 x9_1).f2]) l0 (l0.length : Int) (wrap64 (x9_1 + 1))) else (none))))) else (none)) = some r := H
            have A7 := Aside0.mk A70
            clear A70
            by_cases c8 : x3_1.length < 8796093022208
            · rw [if_pos c8] at H
              have LMc8 := Aside0.mk c8
              clear c8
              obtain ⟨y145, hy145⟩ : ∃ y_ : List ByteArray, y_ = (x3_1 ++ [t144]) := ⟨_, rfl⟩
              replace H : (if ((rd_T86 l0 x9_1).f0) = 8 then ((parse_words.f k1 ((rd_T86 l0 x9_1).f3)).bind fun t148 => (if y145.length + t148.length < 8796093022208 then (parse_words.l0 k1 (y145 ++ t148) l0 (l0.length : Int) (wrap64 (x9_1 + 1))) else (none))) else (if ((rd_T86 l0 x9_1).f0) = 7 then ((parse_words.f k1 ((rd_T86 l0 x9_1).f3)).bind fun t154 => (if y145.length + t154.length < 8796093022208 then ((some (y145 ++ t154 : List ByteArray)).bind fun y157 => (if (((rd_T86 l0 x9_1).f4).length : Int) > 0 then (if y157.length < 8796093022208 then ((some (y157 ++ [(⟨#[101, 108, 115, 101]⟩ : ByteArray)] : List ByteArray)).bind fun y160 => ((parse_words.f k1 ((rd_T86 l0 x9_1).f4)).bind fun t163 => (if y160.length + t163.length < 8796093022208 then (parse_words.l0 k1 (y160 ++ t163) l0 (l0.length : Int) (wrap64 (x9_1 + 1))) else (none)))) else (none)) else (parse_words.l0 k1 y157 l0 (l0.length : Int) (wrap64 (x9_1 + 1))))) else (none))) else (if y145.length < 8796093022208 then (parse_words.l0 k1 (y145 ++ [(rd_T86 l0 x9_1).f2]) l0 (l0.length : Int) (wrap64 (x9_1 + 1))) else (none)))) = some r := by first | (rw [hy145]; with_reducible exact H) | (have H2_ := (Option.bind_some _ _).symm.trans H; rw [hy145]; with_reducible exact H2_) | (have H2_ := (Option.bind_some _ _).symm.trans H; with_reducible exact H2_) | with_reducible exact H | (rw [hy145]; exact H) | exact H
              have Ny145 := Aside0.mk hy145
              clear hy145
              by_cases c9 : ((rd_T86 l0 x9_1).f0) = 8
              · rw [if_pos c9] at H
                have c9b0 : (((rd_T86 l0 x9_1).f0) == 8) = true := beq_iff_eq.mpr c9
                have c9b1 : (((rd_T86 l0 x9_1).f0) != 8) = false := bne_eq_false_iff_eq.mpr c9
                clear c9
                replace H := Option.bind_eq_some_iff.mp H
                obtain ⟨t148, A100, H⟩ := H
                replace H : (if y145.length + t148.length < 8796093022208 then (parse_words.l0 k1 (y145 ++ t148) l0 (l0.length : Int) (wrap64 (x9_1 + 1))) else (none)) = some r := H
                have A10 := Aside0.mk A100
                clear A100
                by_cases c11 : y145.length + t148.length < 8796093022208
                · rw [if_pos c11] at H
                  have LMc11 := Aside0.mk c11
                  clear c11
                  obtain ⟨y151, hy151⟩ : ∃ y_ : List ByteArray, y_ = (y145 ++ t148) := ⟨_, rfl⟩
                  replace H : (parse_words.l0 k1 y151 l0 (l0.length : Int) (wrap64 (x9_1 + 1))) = some r := by first | (rw [hy151]; with_reducible exact H) | (have H2_ := (Option.bind_some _ _).symm.trans H; rw [hy151]; with_reducible exact H2_) | (have H2_ := (Option.bind_some _ _).symm.trans H; with_reducible exact H2_) | with_reducible exact H | (rw [hy151]; exact H) | exact H
                  have Ny151 := Aside0.mk hy151
                  clear hy151
                  have H' := Aside0.mk H
                  clear H
                  have p142 : 0 ≤ (x9_1 : Int) := of_decide_eq_true (by first | (with_reducible assumption) | assumption)
                  have q142 : x9_1 < (l0.length : Int) := of_decide_eq_true (by first | (with_reducible assumption) | assumption)
                  obtain ⟨ad142, A142_3, c142_3, A142_4, c142_4, e142, hx142_0, hx142_1, hx142_2, hx142_3, hx142_4, hl142_3, hi142_3, hl142_4, hi142_4⟩ := at_T86 HR0.out x9_1 p142 q142
                  cases e142
                  replace hx142_0 := (HB.out.cell (World.block_lt_of_cell? w _ hx142_0)).trans hx142_0
                  replace hx142_1 := (HB.out.cell (World.block_lt_of_cell? w _ hx142_1)).trans hx142_1
                  replace hx142_2 := (HB.out.cell (World.block_lt_of_cell? w _ hx142_2)).trans hx142_2
                  replace hx142_3 := (HB.out.cell (World.block_lt_of_cell? w _ hx142_3)).trans hx142_3
                  replace hx142_4 := (HB.out.cell (World.block_lt_of_cell? w _ hx142_4)).trans hx142_4
                  have HR142_3 := Aside0.mk hi142_3
                  have HC142_3 := Aside0.mk hl142_3
                  clear hi142_3 hl142_3
                  have HR142_4 := Aside0.mk hi142_4
                  have HC142_4 := Aside0.mk hl142_4
                  clear hi142_4 hl142_4
                  replace p142 := eq_true p142
                  replace q142 := eq_true q142
                  go_wp2_with (first | ((with_reducible refine gate_dst (N := 5) rfl ?_); refine box_event ?hg (N := 5) ?hd (cs := #[.int .i64 0, .int .i64 0, .string (⟨#[]⟩ : ByteArray), .slice none 0 0, .slice none 0 0]) (t := 86) ?hr ?_; (case hd => rfl); (case hg => rfl); (case hr => first | (go_simp; done) | (go_simp; rfl)); intro gb143 hg w12 hbox hb; have n0_ := Aside0.mk (Kd.R_below (by (with_reducible repeat (first | apply Kd.R_alloc | apply Kd.R_drewN | apply Kd.R_drew)); exact HO_3.out) hb); have n1_ := Aside0.mk (below_step (by repeat (first | (with_reducible first | exact HB.out | apply below_alloc | apply pw_below_drewN | apply below_drew1) | exact HB.out)) hb); have n2_ := Aside0.mk (hbox); have n3_ := Aside0.mk ((by rw [hg]; exact (below_size (by repeat (first | (with_reducible first | exact HB.out | apply below_alloc | apply pw_below_drewN | apply below_drew1) | exact HB.out))) : w.heap.size ≤ gb143)); have n4_ := Aside0.mk ((by rw [hg]; exact (below_size (by repeat (first | (with_reducible first | exact HB.out | apply below_alloc | apply pw_below_drewN | apply below_drew1) | exact HB.out))) : w.heap.size ≤ gb143)); clear HO_3; clear HB; have HO_3 := n0_; have HB := n1_; have BK143 := n2_; have GW143 := n3_; have GE143 := n4_; clear n0_ n1_ n2_ n3_ n4_; clear hb hbox hg; have hcz13_0 : w12.cell? ⟨gb143, 0, none⟩ = some (.int .i64 0) := (blk_cell BK143.out 0).trans rfl; have hcz13_1 : w12.cell? ⟨gb143, 1, none⟩ = some (.int .i64 0) := (blk_cell BK143.out 1).trans rfl; have hcz13_2 : w12.cell? ⟨gb143, 2, none⟩ = some (.string (⟨#[]⟩ : ByteArray)) := (blk_cell BK143.out 2).trans rfl; have hcz13_3 : w12.cell? ⟨gb143, 3, none⟩ = some (.slice none 0 0) := (blk_cell BK143.out 3).trans rfl; have hcz13_4 : w12.cell? ⟨gb143, 4, none⟩ = some (.slice none 0 0) := (blk_cell BK143.out 4).trans rfl; have hfz13_0 := blk_frozen BK143.out 0; have hfz13_1 := blk_frozen BK143.out 1; have hfz13_2 := blk_frozen BK143.out 2; have hfz13_3 := blk_frozen BK143.out 3; have hfz13_4 := blk_frozen BK143.out 4) | ((with_reducible refine gate_callee (f := 77) rfl ?_); refine goesL_ (some 16) rfl rfl Tryd.func77 (by kernel_rfl) rfl #[.int .i64 ((rd_T86 l0 x9_1).f0)] rfl (by (try simp only [List.map_toArray, List.map_cons, List.map_nil]); first | done | rfl | (simp only [List.length_drop, List.length_take]; rfl)) ?_; (with_reducible refine (parse_word.calls ((rd_T86 l0 x9_1).f0) t144 _ A7.out (by first | exact HG.out | exact GL.drewN HG.out _ | exact GL.drewN (GL.drewN HG.out _) _ | exact GL.of_below HG.out (by repeat (first | (with_reducible first | exact HB.out | apply below_alloc | apply pw_below_drewN | apply below_drew1 | refine below_set ?_ GE143.out) | exact HB.out)))).mono ?_); rintro e w14 ⟨rfl, hb⟩; refine ⟨_, rfl, ?_⟩; have n0_ := Aside0.mk (Kd.R_below (by (with_reducible repeat (first | apply Kd.R_alloc | apply Kd.R_drewN | apply Kd.R_drew)); exact (Kd.R_mono (Kd.R_far (p := ⟨gb143, 4, none⟩) (Kd.R_far (p := ⟨gb143, 3, none⟩) (Kd.R_far (p := ⟨gb143, 2, none⟩) (Kd.R_far (p := ⟨gb143, 1, none⟩) (Kd.R_far (p := ⟨gb143, 0, none⟩) (Kd.R_types HO_3.out BK143.out (by decide)) (fun _ hk => hk.2) (.int .i64 ((rd_T86 l0 x9_1).f0))) (fun _ hk => hk.2) (.int .i64 ((rd_T86 l0 x9_1).f1))) (fun _ hk => hk.2) (.string ((rd_T86 l0 x9_1).f2))) (fun _ hk => hk.2) (.slice A142_3 ((rd_T86 l0 x9_1).f3).length c142_3)) (fun _ hk => hk.2) (.slice A142_4 ((rd_T86 l0 x9_1).f4).length c142_4)) (fun _ h_ => h_.1))) hb); have n1_ := Aside0.mk (blk_below (g := gb143) (o := .cells #[.int .i64 ((rd_T86 l0 x9_1).f0), .int .i64 ((rd_T86 l0 x9_1).f1), .string ((rd_T86 l0 x9_1).f2), .slice A142_3 ((rd_T86 l0 x9_1).f3).length c142_3, .slice A142_4 ((rd_T86 l0 x9_1).f4).length c142_4] 86 (0, 0)) (by (with_reducible repeat (first | refine blk_drewN ?_ _ | refine blk_drew ?_ | refine blk_alloc ?_ _)); refine blk_put (cs := #[.int .i64 ((rd_T86 l0 x9_1).f0), .int .i64 ((rd_T86 l0 x9_1).f1), .string ((rd_T86 l0 x9_1).f2), .slice A142_3 ((rd_T86 l0 x9_1).f3).length c142_3, .slice none 0 0]) ?_ 4 _ rfl; (with_reducible repeat (first | refine blk_drewN ?_ _ | refine blk_drew ?_ | refine blk_alloc ?_ _)); refine blk_put (cs := #[.int .i64 ((rd_T86 l0 x9_1).f0), .int .i64 ((rd_T86 l0 x9_1).f1), .string ((rd_T86 l0 x9_1).f2), .slice none 0 0, .slice none 0 0]) ?_ 3 _ rfl; (with_reducible repeat (first | refine blk_drewN ?_ _ | refine blk_drew ?_ | refine blk_alloc ?_ _)); refine blk_put (cs := #[.int .i64 ((rd_T86 l0 x9_1).f0), .int .i64 ((rd_T86 l0 x9_1).f1), .string (⟨#[]⟩ : ByteArray), .slice none 0 0, .slice none 0 0]) ?_ 2 _ rfl; (with_reducible repeat (first | refine blk_drewN ?_ _ | refine blk_drew ?_ | refine blk_alloc ?_ _)); refine blk_put (cs := #[.int .i64 ((rd_T86 l0 x9_1).f0), .int .i64 0, .string (⟨#[]⟩ : ByteArray), .slice none 0 0, .slice none 0 0]) ?_ 1 _ rfl; (with_reducible repeat (first | refine blk_drewN ?_ _ | refine blk_drew ?_ | refine blk_alloc ?_ _)); refine blk_put (cs := #[.int .i64 0, .int .i64 0, .string (⟨#[]⟩ : ByteArray), .slice none 0 0, .slice none 0 0]) ?_ 0 _ rfl; (with_reducible repeat (first | refine blk_drewN ?_ _ | refine blk_drew ?_ | refine blk_alloc ?_ _)); exact BK143.out) hb); have n2_ := Aside0.mk (below_step (by repeat (first | (with_reducible first | exact HB.out | apply below_alloc | apply pw_below_drewN | apply below_drew1 | refine below_set ?_ GE143.out) | exact HB.out)) hb); clear HO_3; clear BK143; clear HB; have HO_3 := n0_; have BK143 := n1_; have HB := n2_; clear n0_ n1_ n2_; (try clear hb); (try clear hb2); (try clear hk); (try clear hi)) | ((with_reducible refine gate_builtin (b := .append) (xs := #[.tmp 13, .tmp 17]) rfl ?_); at_builtin; refine Kd.R_append Kd.string (w0 := w) w.heap.size rfl (.tmp 13) (.tmp 17) 35 9 (.string ⟨#[]⟩) 16 rfl Tryd.underlying35 info9 rfl (by decide) (by omega) u3 x3_1 t144 [.string t144] (fun _ => True) (fun _ => False) rfl rfl ?aP (fun _ hk => hk.elim) ?aF ?aO ?aB ?aS ?aL ?_; (case aP => exact rfl); (case aB => exact (by repeat (first | (with_reducible first | exact HB.out | apply below_alloc | apply pw_below_drewN | apply below_drew1 | refine below_set ?_ GE143.out) | exact HB.out))); (case aF => exact (fun _ _ => trivial)); (case aO => exact (by (with_reducible repeat (first | apply Kd.R_alloc | apply Kd.R_drewN | apply Kd.R_drew)); exact HO_3.out)); (case aS => exact (below_size (by repeat (first | (with_reducible first | exact HB.out | apply below_alloc | apply pw_below_drewN | apply below_drew1 | refine below_set ?_ GE143.out) | exact HB.out)))); (case aL => have := LMc8.out; omega); intro v146 w15 ho hb hg hat; rw [← Ny145.out] at ho; have n0_ := Aside0.mk (blk_grown (g := gb143) (o := .cells #[.int .i64 ((rd_T86 l0 x9_1).f0), .int .i64 ((rd_T86 l0 x9_1).f1), .string ((rd_T86 l0 x9_1).f2), .slice A142_3 ((rd_T86 l0 x9_1).f3).length c142_3, .slice A142_4 ((rd_T86 l0 x9_1).f4).length c142_4] 86 (0, 0)) (by (with_reducible repeat (first | refine blk_drewN ?_ _ | refine blk_drew ?_ | refine blk_alloc ?_ _)); exact BK143.out) hg (Kd.R_ne HO_3.out BK143.out (by decide))); have n1_ := Aside0.mk (hb); have n2_ := Aside0.mk (ho); clear BK143; clear HB; clear HO_3; have BK143 := n0_; have HB := n1_; have HO147 := n2_; clear n0_ n1_ n2_; clear ho hb hg hat; have hcz16_0 : w15.cell? ⟨gb143, 0, none⟩ = some (.int .i64 ((rd_T86 l0 x9_1).f0)) := (blk_cell BK143.out 0).trans rfl; have hcz16_1 : w15.cell? ⟨gb143, 1, none⟩ = some (.int .i64 ((rd_T86 l0 x9_1).f1)) := (blk_cell BK143.out 1).trans rfl; have hcz16_2 : w15.cell? ⟨gb143, 2, none⟩ = some (.string ((rd_T86 l0 x9_1).f2)) := (blk_cell BK143.out 2).trans rfl; have hcz16_3 : w15.cell? ⟨gb143, 3, none⟩ = some (.slice A142_3 ((rd_T86 l0 x9_1).f3).length c142_3) := (blk_cell BK143.out 3).trans rfl; have hcz16_4 : w15.cell? ⟨gb143, 4, none⟩ = some (.slice A142_4 ((rd_T86 l0 x9_1).f4).length c142_4) := (blk_cell BK143.out 4).trans rfl; have hfz16_0 := blk_frozen BK143.out 0; have hfz16_1 := blk_frozen BK143.out 1; have hfz16_2 := blk_frozen BK143.out 2; have hfz16_3 := blk_frozen BK143.out 3; have hfz16_4 := blk_frozen BK143.out 4) | ((with_reducible refine gate_callee (f := 49) rfl ?_); refine goesL_ (some 31) rfl rfl Tryd.func49 (by kernel_rfl) rfl #[.slice A142_3 ((rd_T86 l0 x9_1).f3).length c142_3] rfl (by (try simp only [List.map_toArray, List.map_cons, List.map_nil]); first | done | rfl | (simp only [List.length_drop, List.length_take]; rfl)) ?_; (with_reducible refine (ih k1 (by have := HK1.out; omega) _ _ ((rd_T86 l0 x9_1).f3) t148 _ ?side1 ?side2 A10.out (by first | exact HG.out | exact GL.drewN HG.out _ | exact GL.drewN (GL.drewN HG.out _) _ | exact GL.of_below HG.out (by repeat (first | (with_reducible first | exact HB.out | apply below_alloc | apply pw_below_drewN | apply below_drew1 | refine below_set ?_ GE143.out) | exact HB.out)))).mono ?_); (case side1 => repeat (first | exact (Kd.C_below HR142_3.out HB.out) | (with_reducible refine Kd.C_alloc ?_ _) | (with_reducible refine Kd.C_drewN ?_ _) | (with_reducible refine Kd.C_drew ?_))); (case side2 => exact HC142_3.out); rintro e w17 ⟨v149, rfl, ho0, hb⟩; refine ⟨_, rfl, ?_⟩; have n0_ := Aside0.mk (Kd.R_elder' (by (with_reducible repeat (first | apply Kd.R_alloc | apply Kd.R_drewN | apply Kd.R_drew)); exact HO147.out) (Kd.R_base ho0) hb); have n1_ := Aside0.mk (Kd.R_lower (Kd.R_new' ho0 (Kd.R_lt (by (with_reducible repeat (first | apply Kd.R_alloc | apply Kd.R_drewN | apply Kd.R_drew)); exact HO147.out))) (below_size (by repeat (first | (with_reducible first | exact HB.out | apply below_alloc | apply pw_below_drewN | apply below_drew1 | refine below_set ?_ GE143.out) | exact HB.out)))); have n2_ := Aside0.mk (blk_below (g := gb143) (o := .cells #[.int .i64 ((rd_T86 l0 x9_1).f0), .int .i64 ((rd_T86 l0 x9_1).f1), .string ((rd_T86 l0 x9_1).f2), .slice A142_3 ((rd_T86 l0 x9_1).f3).length c142_3, .slice A142_4 ((rd_T86 l0 x9_1).f4).length c142_4] 86 (0, 0)) (by (with_reducible repeat (first | refine blk_drewN ?_ _ | refine blk_drew ?_ | refine blk_alloc ?_ _)); exact BK143.out) hb); have n3_ := Aside0.mk (below_step (by repeat (first | (with_reducible first | exact HB.out | apply below_alloc | apply pw_below_drewN | apply below_drew1 | refine below_set ?_ GE143.out) | exact HB.out)) hb); clear HO147; clear BK143; clear HB; have HO147 := n0_; have HO150 := n1_; have BK143 := n2_; have HB := n3_; clear n0_ n1_ n2_ n3_; (try clear hb); (try clear hb2); (try clear hk); (try clear hi); (try clear ho0); obtain ⟨Ao19, co19, eo19⟩ := Kd.R_slice HO150.out; subst eo19) | ((with_reducible refine gate_builtin (b := .append) (xs := #[.tmp 28, .tmp 31]) rfl ?_); at_builtin; refine Kd.R_append_rows Kd.string (w0 := w) w.heap.size rfl (.tmp 28) (.tmp 31) 35 9 (.string ⟨#[]⟩) 16 rfl Tryd.underlying35 info9 rfl (by decide) (by omega) v146 y145 t148 _ _ _ (fun k_ => some k_ ≠ (.slice Ao19 t148.length co19 : Value).ownBlock) (fun _ => False) rfl rfl ?aO ?aR (fun _ _ h => h) (fun _ h => h.elim) ?aF ?aB ?aS ?aL ?_; (case aR => repeat (first | exact (Kd.R_reads' HO150.out).2.2 | (with_reducible refine Kd.C_alloc ?_ _) | (with_reducible refine Kd.C_drewN ?_ _) | (with_reducible refine Kd.C_drew ?_))); (case aB => exact (by repeat (first | (with_reducible first | exact HB.out | apply below_alloc | apply pw_below_drewN | apply below_drew1 | refine below_set ?_ GE143.out) | exact HB.out))); (case aF => exact (fun k_ hk => Kd.fresh' (Kd.R_lt (by (with_reducible repeat (first | apply Kd.R_alloc | apply Kd.R_drewN | apply Kd.R_drew)); exact HO150.out)) k_ hk)); (case aO => exact (by (with_reducible repeat (first | apply Kd.R_alloc | apply Kd.R_drewN | apply Kd.R_drew)); exact Kd.R_mono HO147.out (fun _ hk => hk.2))); (case aS => exact (below_size (by repeat (first | (with_reducible first | exact HB.out | apply below_alloc | apply pw_below_drewN | apply below_drew1 | refine below_set ?_ GE143.out) | exact HB.out)))); (case aL => have := LMc11.out; omega); intro v152 w18 ho hb hg hat; rw [← Ny151.out] at ho; have n0_ := Aside0.mk (blk_grown (g := gb143) (o := .cells #[.int .i64 ((rd_T86 l0 x9_1).f0), .int .i64 ((rd_T86 l0 x9_1).f1), .string ((rd_T86 l0 x9_1).f2), .slice A142_3 ((rd_T86 l0 x9_1).f3).length c142_3, .slice A142_4 ((rd_T86 l0 x9_1).f4).length c142_4] 86 (0, 0)) (by (with_reducible repeat (first | refine blk_drewN ?_ _ | refine blk_drew ?_ | refine blk_alloc ?_ _)); exact BK143.out) hg (Kd.R_ne HO147.out BK143.out (by decide))); have n1_ := Aside0.mk (Kd.R_after (ok := (fun _ => True)) (by (with_reducible repeat (first | apply Kd.R_alloc | apply Kd.R_drewN | apply Kd.R_drew)); exact HO150.out) hg hat); have n2_ := Aside0.mk (hb); have n3_ := Aside0.mk (ho); clear BK143; clear HO150; clear HB; clear HO147; have BK143 := n0_; have HO150 := n1_; have HB := n2_; have HO153 := n3_; clear n0_ n1_ n2_ n3_; clear ho hb hg hat))
                  go_roundg k1
                  case measure => have := HK1.out; omega
                  case rel => exact ⟨(y151), (wrap64 (x9_1 + 1)), (by first | rfl | (simp; done) | (simp [*]; done)), H', ⟨by have := HK1.out; omega⟩, ⟨by (with_reducible repeat (first | apply Kd.R_alloc | apply Kd.R_drewN | apply Kd.R_drew)); exact Kd.R_mono HO153.out (fun _ hk => trivial)⟩, ⟨by repeat (first | (with_reducible first | exact HB.out | apply below_alloc | apply pw_below_drewN | apply below_drew1 | refine below_set ?_ GE143.out) | exact HB.out)⟩⟩
                · rw [if_neg c11] at H
                  exact absurd H (by simp)
              · rw [if_neg c9] at H
                have c9b0 : (((rd_T86 l0 x9_1).f0) == 8) = false := beq_eq_false_iff_ne.mpr c9
                have c9b1 : (((rd_T86 l0 x9_1).f0) != 8) = true := bne_iff_ne.mpr c9
                by_cases c20 : ((rd_T86 l0 x9_1).f0) = 7
                · rw [if_pos c20] at H
                  have c20b0 : (((rd_T86 l0 x9_1).f0) == 7) = true := beq_iff_eq.mpr c20
                  have c20b1 : (((rd_T86 l0 x9_1).f0) != 7) = false := bne_eq_false_iff_eq.mpr c20
                  clear c20
                  replace H := Option.bind_eq_some_iff.mp H
                  obtain ⟨t154, A210, H⟩ := H
                  replace H : (if y145.length + t154.length < 8796093022208 then ((some (y145 ++ t154 : List ByteArray)).bind fun y157 => (if (((rd_T86 l0 x9_1).f4).length : Int) > 0 then (if y157.length < 8796093022208 then ((some (y157 ++ [(⟨#[101, 108, 115, 101]⟩ : ByteArray)] : List ByteArray)).bind fun y160 => ((parse_words.f k1 ((rd_T86 l0 x9_1).f4)).bind fun t163 => (if y160.length + t163.length < 8796093022208 then (parse_words.l0 k1 (y160 ++ t163) l0 (l0.length : Int) (wrap64 (x9_1 + 1))) else (none)))) else (none)) else (parse_words.l0 k1 y157 l0 (l0.length : Int) (wrap64 (x9_1 + 1))))) else (none)) = some r := H
                  have A21 := Aside0.mk A210
                  clear A210
                  by_cases c22 : y145.length + t154.length < 8796093022208
                  · rw [if_pos c22] at H
                    have LMc22 := Aside0.mk c22
                    clear c22
                    obtain ⟨y157, hy157⟩ : ∃ y_ : List ByteArray, y_ = (y145 ++ t154) := ⟨_, rfl⟩
                    replace H : (if (((rd_T86 l0 x9_1).f4).length : Int) > 0 then (if y157.length < 8796093022208 then ((some (y157 ++ [(⟨#[101, 108, 115, 101]⟩ : ByteArray)] : List ByteArray)).bind fun y160 => ((parse_words.f k1 ((rd_T86 l0 x9_1).f4)).bind fun t163 => (if y160.length + t163.length < 8796093022208 then (parse_words.l0 k1 (y160 ++ t163) l0 (l0.length : Int) (wrap64 (x9_1 + 1))) else (none)))) else (none)) else (parse_words.l0 k1 y157 l0 (l0.length : Int) (wrap64 (x9_1 + 1)))) = some r := by first | (rw [hy157]; with_reducible exact H) | (have H2_ := (Option.bind_some _ _).symm.trans H; rw [hy157]; with_reducible exact H2_) | (have H2_ := (Option.bind_some _ _).symm.trans H; with_reducible exact H2_) | with_reducible exact H | (rw [hy157]; exact H) | exact H
                    have Ny157 := Aside0.mk hy157
                    clear hy157
                    by_cases c23 : (((rd_T86 l0 x9_1).f4).length : Int) > 0
                    · rw [if_pos c23] at H
                      have c23b0 : decide (0 < (((rd_T86 l0 x9_1).f4).length : Int)) = true := decide_eq_true c23
                      have c23b1 : decide (0 < ((rd_T86 l0 x9_1).f4).length) = true := decide_eq_true (by omega)
                      clear c23
                      by_cases c24 : y157.length < 8796093022208
                      · rw [if_pos c24] at H
                        have LMc24 := Aside0.mk c24
                        clear c24
                        obtain ⟨y160, hy160⟩ : ∃ y_ : List ByteArray, y_ = (y157 ++ [(⟨#[101, 108, 115, 101]⟩ : ByteArray)]) := ⟨_, rfl⟩
                        replace H : ((parse_words.f k1 ((rd_T86 l0 x9_1).f4)).bind fun t163 => (if y160.length + t163.length < 8796093022208 then (parse_words.l0 k1 (y160 ++ t163) l0 (l0.length : Int) (wrap64 (x9_1 + 1))) else (none))) = some r := by first | (rw [hy160]; with_reducible exact H) | (have H2_ := (Option.bind_some _ _).symm.trans H; rw [hy160]; with_reducible exact H2_) | (have H2_ := (Option.bind_some _ _).symm.trans H; with_reducible exact H2_) | with_reducible exact H | (rw [hy160]; exact H) | exact H
                        have Ny160 := Aside0.mk hy160
                        clear hy160
                        replace H := Option.bind_eq_some_iff.mp H
                        obtain ⟨t163, A250, H⟩ := H
                        replace H : (if y160.length + t163.length < 8796093022208 then (parse_words.l0 k1 (y160 ++ t163) l0 (l0.length : Int) (wrap64 (x9_1 + 1))) else (none)) = some r := H
                        have A25 := Aside0.mk A250
                        clear A250
                        by_cases c26 : y160.length + t163.length < 8796093022208
                        · rw [if_pos c26] at H
                          have LMc26 := Aside0.mk c26
                          clear c26
                          obtain ⟨y166, hy166⟩ : ∃ y_ : List ByteArray, y_ = (y160 ++ t163) := ⟨_, rfl⟩
                          replace H : (parse_words.l0 k1 y166 l0 (l0.length : Int) (wrap64 (x9_1 + 1))) = some r := by first | (rw [hy166]; with_reducible exact H) | (have H2_ := (Option.bind_some _ _).symm.trans H; rw [hy166]; with_reducible exact H2_) | (have H2_ := (Option.bind_some _ _).symm.trans H; with_reducible exact H2_) | with_reducible exact H | (rw [hy166]; exact H) | exact H
                          have Ny166 := Aside0.mk hy166
                          clear hy166
                          have H' := Aside0.mk H
                          clear H
                          have p142 : 0 ≤ (x9_1 : Int) := of_decide_eq_true (by first | (with_reducible assumption) | assumption)
                          have q142 : x9_1 < (l0.length : Int) := of_decide_eq_true (by first | (with_reducible assumption) | assumption)
                          obtain ⟨ad142, A142_3, c142_3, A142_4, c142_4, e142, hx142_0, hx142_1, hx142_2, hx142_3, hx142_4, hl142_3, hi142_3, hl142_4, hi142_4⟩ := at_T86 HR0.out x9_1 p142 q142
                          cases e142
                          replace hx142_0 := (HB.out.cell (World.block_lt_of_cell? w _ hx142_0)).trans hx142_0
                          replace hx142_1 := (HB.out.cell (World.block_lt_of_cell? w _ hx142_1)).trans hx142_1
                          replace hx142_2 := (HB.out.cell (World.block_lt_of_cell? w _ hx142_2)).trans hx142_2
                          replace hx142_3 := (HB.out.cell (World.block_lt_of_cell? w _ hx142_3)).trans hx142_3
                          replace hx142_4 := (HB.out.cell (World.block_lt_of_cell? w _ hx142_4)).trans hx142_4
                          have HR142_3 := Aside0.mk hi142_3
                          have HC142_3 := Aside0.mk hl142_3
                          clear hi142_3 hl142_3
                          have HR142_4 := Aside0.mk hi142_4
                          have HC142_4 := Aside0.mk hl142_4
                          clear hi142_4 hl142_4
                          replace p142 := eq_true p142
                          replace q142 := eq_true q142
                          try go_wp2_with (first | ((with_reducible refine gate_dst (N := 5) rfl ?_); refine box_event ?hg (N := 5) ?hd (cs := #[.int .i64 0, .int .i64 0, .string (⟨#[]⟩ : ByteArray), .slice none 0 0, .slice none 0 0]) (t := 86) ?hr ?_; (case hd => rfl); (case hg => rfl); (case hr => first | (go_simp; done) | (go_simp; rfl)); intro gb143 hg w27 hbox hb; have n0_ := Aside0.mk (Kd.R_below (by (with_reducible repeat (first | apply Kd.R_alloc | apply Kd.R_drewN | apply Kd.R_drew)); exact HO_3.out) hb); have n1_ := Aside0.mk (below_step (by repeat (first | (with_reducible first | exact HB.out | apply below_alloc | apply pw_below_drewN | apply below_drew1) | exact HB.out)) hb); have n2_ := Aside0.mk (hbox); have n3_ := Aside0.mk ((by rw [hg]; exact (below_size (by repeat (first | (with_reducible first | exact HB.out | apply below_alloc | apply pw_below_drewN | apply below_drew1) | exact HB.out))) : w.heap.size ≤ gb143)); have n4_ := Aside0.mk ((by rw [hg]; exact (below_size (by repeat (first | (with_reducible first | exact HB.out | apply below_alloc | apply pw_below_drewN | apply below_drew1) | exact HB.out))) : w.heap.size ≤ gb143)); clear HO_3; clear HB; have HO_3 := n0_; have HB := n1_; have BK143 := n2_; have GW143 := n3_; have GE143 := n4_; clear n0_ n1_ n2_ n3_ n4_; clear hb hbox hg; have hcz28_0 : w27.cell? ⟨gb143, 0, none⟩ = some (.int .i64 0) := (blk_cell BK143.out 0).trans rfl; have hcz28_1 : w27.cell? ⟨gb143, 1, none⟩ = some (.int .i64 0) := (blk_cell BK143.out 1).trans rfl; have hcz28_2 : w27.cell? ⟨gb143, 2, none⟩ = some (.string (⟨#[]⟩ : ByteArray)) := (blk_cell BK143.out 2).trans rfl; have hcz28_3 : w27.cell? ⟨gb143, 3, none⟩ = some (.slice none 0 0) := (blk_cell BK143.out 3).trans rfl; have hcz28_4 : w27.cell? ⟨gb143, 4, none⟩ = some (.slice none 0 0) := (blk_cell BK143.out 4).trans rfl; have hfz28_0 := blk_frozen BK143.out 0; have hfz28_1 := blk_frozen BK143.out 1; have hfz28_2 := blk_frozen BK143.out 2; have hfz28_3 := blk_frozen BK143.out 3; have hfz28_4 := blk_frozen BK143.out 4) | ((with_reducible refine gate_callee (f := 77) rfl ?_); refine goesL_ (some 16) rfl rfl Tryd.func77 (by kernel_rfl) rfl #[.int .i64 ((rd_T86 l0 x9_1).f0)] rfl (by (try simp only [List.map_toArray, List.map_cons, List.map_nil]); first | done | rfl | (simp only [List.length_drop, List.length_take]; rfl)) ?_; (with_reducible refine (parse_word.calls ((rd_T86 l0 x9_1).f0) t144 _ A7.out (by first | exact HG.out | exact GL.drewN HG.out _ | exact GL.drewN (GL.drewN HG.out _) _ | exact GL.of_below HG.out (by repeat (first | (with_reducible first | exact HB.out | apply below_alloc | apply pw_below_drewN | apply below_drew1 | refine below_set ?_ GE143.out) | exact HB.out)))).mono ?_); rintro e w29 ⟨rfl, hb⟩; refine ⟨_, rfl, ?_⟩; have n0_ := Aside0.mk (Kd.R_below (by (with_reducible repeat (first | apply Kd.R_alloc | apply Kd.R_drewN | apply Kd.R_drew)); exact (Kd.R_mono (Kd.R_far (p := ⟨gb143, 4, none⟩) (Kd.R_far (p := ⟨gb143, 3, none⟩) (Kd.R_far (p := ⟨gb143, 2, none⟩) (Kd.R_far (p := ⟨gb143, 1, none⟩) (Kd.R_far (p := ⟨gb143, 0, none⟩) (Kd.R_types HO_3.out BK143.out (by decide)) (fun _ hk => hk.2) (.int .i64 ((rd_T86 l0 x9_1).f0))) (fun _ hk => hk.2) (.int .i64 ((rd_T86 l0 x9_1).f1))) (fun _ hk => hk.2) (.string ((rd_T86 l0 x9_1).f2))) (fun _ hk => hk.2) (.slice A142_3 ((rd_T86 l0 x9_1).f3).length c142_3)) (fun _ hk => hk.2) (.slice A142_4 ((rd_T86 l0 x9_1).f4).length c142_4)) (fun _ h_ => h_.1))) hb); have n1_ := Aside0.mk (blk_below (g := gb143) (o := .cells #[.int .i64 ((rd_T86 l0 x9_1).f0), .int .i64 ((rd_T86 l0 x9_1).f1), .string ((rd_T86 l0 x9_1).f2), .slice A142_3 ((rd_T86 l0 x9_1).f3).length c142_3, .slice A142_4 ((rd_T86 l0 x9_1).f4).length c142_4] 86 (0, 0)) (by (with_reducible repeat (first | refine blk_drewN ?_ _ | refine blk_drew ?_ | refine blk_alloc ?_ _)); refine blk_put (cs := #[.int .i64 ((rd_T86 l0 x9_1).f0), .int .i64 ((rd_T86 l0 x9_1).f1), .string ((rd_T86 l0 x9_1).f2), .slice A142_3 ((rd_T86 l0 x9_1).f3).length c142_3, .slice none 0 0]) ?_ 4 _ rfl; (with_reducible repeat (first | refine blk_drewN ?_ _ | refine blk_drew ?_ | refine blk_alloc ?_ _)); refine blk_put (cs := #[.int .i64 ((rd_T86 l0 x9_1).f0), .int .i64 ((rd_T86 l0 x9_1).f1), .string ((rd_T86 l0 x9_1).f2), .slice none 0 0, .slice none 0 0]) ?_ 3 _ rfl; (with_reducible repeat (first | refine blk_drewN ?_ _ | refine blk_drew ?_ | refine blk_alloc ?_ _)); refine blk_put (cs := #[.int .i64 ((rd_T86 l0 x9_1).f0), .int .i64 ((rd_T86 l0 x9_1).f1), .string (⟨#[]⟩ : ByteArray), .slice none 0 0, .slice none 0 0]) ?_ 2 _ rfl; (with_reducible repeat (first | refine blk_drewN ?_ _ | refine blk_drew ?_ | refine blk_alloc ?_ _)); refine blk_put (cs := #[.int .i64 ((rd_T86 l0 x9_1).f0), .int .i64 0, .string (⟨#[]⟩ : ByteArray), .slice none 0 0, .slice none 0 0]) ?_ 1 _ rfl; (with_reducible repeat (first | refine blk_drewN ?_ _ | refine blk_drew ?_ | refine blk_alloc ?_ _)); refine blk_put (cs := #[.int .i64 0, .int .i64 0, .string (⟨#[]⟩ : ByteArray), .slice none 0 0, .slice none 0 0]) ?_ 0 _ rfl; (with_reducible repeat (first | refine blk_drewN ?_ _ | refine blk_drew ?_ | refine blk_alloc ?_ _)); exact BK143.out) hb); have n2_ := Aside0.mk (below_step (by repeat (first | (with_reducible first | exact HB.out | apply below_alloc | apply pw_below_drewN | apply below_drew1 | refine below_set ?_ GE143.out) | exact HB.out)) hb); clear HO_3; clear BK143; clear HB; have HO_3 := n0_; have BK143 := n1_; have HB := n2_; clear n0_ n1_ n2_; (try clear hb); (try clear hb2); (try clear hk); (try clear hi)) | ((with_reducible refine gate_builtin (b := .append) (xs := #[.tmp 13, .tmp 17]) rfl ?_); at_builtin; refine Kd.R_append Kd.string (w0 := w) w.heap.size rfl (.tmp 13) (.tmp 17) 35 9 (.string ⟨#[]⟩) 16 rfl Tryd.underlying35 info9 rfl (by decide) (by omega) u3 x3_1 t144 [.string t144] (fun _ => True) (fun _ => False) rfl rfl ?aP (fun _ hk => hk.elim) ?aF ?aO ?aB ?aS ?aL ?_; (case aP => exact rfl); (case aB => exact (by repeat (first | (with_reducible first | exact HB.out | apply below_alloc | apply pw_below_drewN | apply below_drew1 | refine below_set ?_ GE143.out) | exact HB.out))); (case aF => exact (fun _ _ => trivial)); (case aO => exact (by (with_reducible repeat (first | apply Kd.R_alloc | apply Kd.R_drewN | apply Kd.R_drew)); exact HO_3.out)); (case aS => exact (below_size (by repeat (first | (with_reducible first | exact HB.out | apply below_alloc | apply pw_below_drewN | apply below_drew1 | refine below_set ?_ GE143.out) | exact HB.out)))); (case aL => have := LMc8.out; omega); intro v146 w30 ho hb hg hat; rw [← Ny145.out] at ho; have n0_ := Aside0.mk (blk_grown (g := gb143) (o := .cells #[.int .i64 ((rd_T86 l0 x9_1).f0), .int .i64 ((rd_T86 l0 x9_1).f1), .string ((rd_T86 l0 x9_1).f2), .slice A142_3 ((rd_T86 l0 x9_1).f3).length c142_3, .slice A142_4 ((rd_T86 l0 x9_1).f4).length c142_4] 86 (0, 0)) (by (with_reducible repeat (first | refine blk_drewN ?_ _ | refine blk_drew ?_ | refine blk_alloc ?_ _)); exact BK143.out) hg (Kd.R_ne HO_3.out BK143.out (by decide))); have n1_ := Aside0.mk (hb); have n2_ := Aside0.mk (ho); clear BK143; clear HB; clear HO_3; have BK143 := n0_; have HB := n1_; have HO147 := n2_; clear n0_ n1_ n2_; clear ho hb hg hat; have hcz31_0 : w30.cell? ⟨gb143, 0, none⟩ = some (.int .i64 ((rd_T86 l0 x9_1).f0)) := (blk_cell BK143.out 0).trans rfl; have hcz31_1 : w30.cell? ⟨gb143, 1, none⟩ = some (.int .i64 ((rd_T86 l0 x9_1).f1)) := (blk_cell BK143.out 1).trans rfl; have hcz31_2 : w30.cell? ⟨gb143, 2, none⟩ = some (.string ((rd_T86 l0 x9_1).f2)) := (blk_cell BK143.out 2).trans rfl; have hcz31_3 : w30.cell? ⟨gb143, 3, none⟩ = some (.slice A142_3 ((rd_T86 l0 x9_1).f3).length c142_3) := (blk_cell BK143.out 3).trans rfl; have hcz31_4 : w30.cell? ⟨gb143, 4, none⟩ = some (.slice A142_4 ((rd_T86 l0 x9_1).f4).length c142_4) := (blk_cell BK143.out 4).trans rfl; have hfz31_0 := blk_frozen BK143.out 0; have hfz31_1 := blk_frozen BK143.out 1; have hfz31_2 := blk_frozen BK143.out 2; have hfz31_3 := blk_frozen BK143.out 3; have hfz31_4 := blk_frozen BK143.out 4) | ((with_reducible refine gate_callee (f := 49) rfl ?_); refine goesL_ (some 38) rfl rfl Tryd.func49 (by kernel_rfl) rfl #[.slice A142_3 ((rd_T86 l0 x9_1).f3).length c142_3] rfl (by (try simp only [List.map_toArray, List.map_cons, List.map_nil]); first | done | rfl | (simp only [List.length_drop, List.length_take]; rfl)) ?_; (with_reducible refine (ih k1 (by have := HK1.out; omega) _ _ ((rd_T86 l0 x9_1).f3) t154 _ ?side1 ?side2 A21.out (by first | exact HG.out | exact GL.drewN HG.out _ | exact GL.drewN (GL.drewN HG.out _) _ | exact GL.of_below HG.out (by repeat (first | (with_reducible first | exact HB.out | apply below_alloc | apply pw_below_drewN | apply below_drew1 | refine below_set ?_ GE143.out) | exact HB.out)))).mono ?_); (case side1 => repeat (first | exact (Kd.C_below HR142_3.out HB.out) | (with_reducible refine Kd.C_alloc ?_ _) | (with_reducible refine Kd.C_drewN ?_ _) | (with_reducible refine Kd.C_drew ?_))); (case side2 => exact HC142_3.out); rintro e w32 ⟨v155, rfl, ho0, hb⟩; refine ⟨_, rfl, ?_⟩; have n0_ := Aside0.mk (Kd.R_elder' (by (with_reducible repeat (first | apply Kd.R_alloc | apply Kd.R_drewN | apply Kd.R_drew)); exact HO147.out) (Kd.R_base ho0) hb); have n1_ := Aside0.mk (Kd.R_lower (Kd.R_new' ho0 (Kd.R_lt (by (with_reducible repeat (first | apply Kd.R_alloc | apply Kd.R_drewN | apply Kd.R_drew)); exact HO147.out))) (below_size (by repeat (first | (with_reducible first | exact HB.out | apply below_alloc | apply pw_below_drewN | apply below_drew1 | refine below_set ?_ GE143.out) | exact HB.out)))); have n2_ := Aside0.mk (blk_below (g := gb143) (o := .cells #[.int .i64 ((rd_T86 l0 x9_1).f0), .int .i64 ((rd_T86 l0 x9_1).f1), .string ((rd_T86 l0 x9_1).f2), .slice A142_3 ((rd_T86 l0 x9_1).f3).length c142_3, .slice A142_4 ((rd_T86 l0 x9_1).f4).length c142_4] 86 (0, 0)) (by (with_reducible repeat (first | refine blk_drewN ?_ _ | refine blk_drew ?_ | refine blk_alloc ?_ _)); exact BK143.out) hb); have n3_ := Aside0.mk (below_step (by repeat (first | (with_reducible first | exact HB.out | apply below_alloc | apply pw_below_drewN | apply below_drew1 | refine below_set ?_ GE143.out) | exact HB.out)) hb); clear HO147; clear BK143; clear HB; have HO147 := n0_; have HO156 := n1_; have BK143 := n2_; have HB := n3_; clear n0_ n1_ n2_ n3_; (try clear hb); (try clear hb2); (try clear hk); (try clear hi); (try clear ho0); obtain ⟨Ao34, co34, eo34⟩ := Kd.R_slice HO156.out; subst eo34) | ((with_reducible refine gate_builtin (b := .append) (xs := #[.tmp 35, .tmp 38]) rfl ?_); at_builtin; refine Kd.R_append_rows Kd.string (w0 := w) w.heap.size rfl (.tmp 35) (.tmp 38) 35 9 (.string ⟨#[]⟩) 16 rfl Tryd.underlying35 info9 rfl (by decide) (by omega) v146 y145 t154 _ _ _ (fun k_ => some k_ ≠ (.slice Ao34 t154.length co34 : Value).ownBlock) (fun _ => False) rfl rfl ?aO ?aR (fun _ _ h => h) (fun _ h => h.elim) ?aF ?aB ?aS ?aL ?_; (case aR => repeat (first | exact (Kd.R_reads' HO156.out).2.2 | (with_reducible refine Kd.C_alloc ?_ _) | (with_reducible refine Kd.C_drewN ?_ _) | (with_reducible refine Kd.C_drew ?_))); (case aB => exact (by repeat (first | (with_reducible first | exact HB.out | apply below_alloc | apply pw_below_drewN | apply below_drew1 | refine below_set ?_ GE143.out) | exact HB.out))); (case aF => exact (fun k_ hk => Kd.fresh' (Kd.R_lt (by (with_reducible repeat (first | apply Kd.R_alloc | apply Kd.R_drewN | apply Kd.R_drew)); exact HO156.out)) k_ hk)); (case aO => exact (by (with_reducible repeat (first | apply Kd.R_alloc | apply Kd.R_drewN | apply Kd.R_drew)); exact Kd.R_mono HO147.out (fun _ hk => hk.2))); (case aS => exact (below_size (by repeat (first | (with_reducible first | exact HB.out | apply below_alloc | apply pw_below_drewN | apply below_drew1 | refine below_set ?_ GE143.out) | exact HB.out)))); (case aL => have := LMc22.out; omega); intro v158 w33 ho hb hg hat; rw [← Ny157.out] at ho; have n0_ := Aside0.mk (blk_grown (g := gb143) (o := .cells #[.int .i64 ((rd_T86 l0 x9_1).f0), .int .i64 ((rd_T86 l0 x9_1).f1), .string ((rd_T86 l0 x9_1).f2), .slice A142_3 ((rd_T86 l0 x9_1).f3).length c142_3, .slice A142_4 ((rd_T86 l0 x9_1).f4).length c142_4] 86 (0, 0)) (by (with_reducible repeat (first | refine blk_drewN ?_ _ | refine blk_drew ?_ | refine blk_alloc ?_ _)); exact BK143.out) hg (Kd.R_ne HO147.out BK143.out (by decide))); have n1_ := Aside0.mk (Kd.R_after (ok := (fun _ => True)) (by (with_reducible repeat (first | apply Kd.R_alloc | apply Kd.R_drewN | apply Kd.R_drew)); exact HO156.out) hg hat); have n2_ := Aside0.mk (hb); have n3_ := Aside0.mk (ho); clear BK143; clear HO156; clear HB; clear HO147; have BK143 := n0_; have HO156 := n1_; have HB := n2_; have HO159 := n3_; clear n0_ n1_ n2_ n3_; clear ho hb hg hat; have hcz35_0 : w33.cell? ⟨gb143, 0, none⟩ = some (.int .i64 ((rd_T86 l0 x9_1).f0)) := (blk_cell BK143.out 0).trans rfl; have hcz35_1 : w33.cell? ⟨gb143, 1, none⟩ = some (.int .i64 ((rd_T86 l0 x9_1).f1)) := (blk_cell BK143.out 1).trans rfl; have hcz35_2 : w33.cell? ⟨gb143, 2, none⟩ = some (.string ((rd_T86 l0 x9_1).f2)) := (blk_cell BK143.out 2).trans rfl; have hcz35_3 : w33.cell? ⟨gb143, 3, none⟩ = some (.slice A142_3 ((rd_T86 l0 x9_1).f3).length c142_3) := (blk_cell BK143.out 3).trans rfl; have hcz35_4 : w33.cell? ⟨gb143, 4, none⟩ = some (.slice A142_4 ((rd_T86 l0 x9_1).f4).length c142_4) := (blk_cell BK143.out 4).trans rfl; have hfz35_0 := blk_frozen BK143.out 0; have hfz35_1 := blk_frozen BK143.out 1; have hfz35_2 := blk_frozen BK143.out 2; have hfz35_3 := blk_frozen BK143.out 3; have hfz35_4 := blk_frozen BK143.out 4))
                          have n0_ := Aside0.mk (Kd.R_drew HO156.out)
                          have n1_ := Aside0.mk (Kd.R_drew HO159.out)
                          have n2_ := Aside0.mk (blk_drew BK143.out)
                          have n3_ := Aside0.mk (below_drew1 HB.out)
                          clear HO156
                          clear HO159
                          clear BK143
                          clear HB
                          have HO156 := n0_
                          have HO159 := n1_
                          have BK143 := n2_
                          have HB := n3_
                          clear n0_ n1_ n2_ n3_
                          refine start_ (n := 8) (S := fun w' => w'.cell? ⟨gb143, 0, none⟩ = some (.int .i64 ((rd_T86 l0 x9_1).f0)) ∧ w'.cell? ⟨gb143, 1, none⟩ = some (.int .i64 ((rd_T86 l0 x9_1).f1)) ∧ w'.cell? ⟨gb143, 2, none⟩ = some (.string ((rd_T86 l0 x9_1).f2)) ∧ w'.cell? ⟨gb143, 3, none⟩ = some (.slice A142_3 ((rd_T86 l0 x9_1).f3).length c142_3) ∧ w'.cell? ⟨gb143, 4, none⟩ = some (.slice A142_4 ((rd_T86 l0 x9_1).f4).length c142_4)) (ds := []) #[false, false, false, false, false, false, false, false] (by kernel_rfl) rfl rfl ⟨(blk_cell BK143.out 0).trans rfl, (blk_cell BK143.out 1).trans rfl, (blk_cell BK143.out 2).trans rfl, (blk_cell BK143.out 3).trans rfl, (blk_cell BK143.out 4).trans rfl⟩ (fun hHeld => ?_); refine with_tabW parse_words.tab13 parse_words.bits13 (fun HT_ HW_ => ?_)
                          generalize w33.drew = w36 at HO156 HO159 BK143 HB hHeld ⊢
                          refine pure_ (i := 0) (N := some 44) (v := ?_) (a' := ?_) #[true, false, false, false, false, false, false, false] rfl rfl (any_of HT_.out (by kernel_rfl)) (fun _ _ _ h => h) (Or.inl ⟨by rfl, ?_⟩) ?_ ?_
                          rotate_left
                          · intro w'
                            go_simp
                            with_reducible rfl
                          rotate_left
                          · simp only [Act.put, List.setIfInBounds_toArray, List.set_cons_zero, List.set_cons_succ, i64_w, i32_w]
                            rfl
                          refine pure_ (i := 3) (N := some 47) (v := ?_) (a' := ?_) #[true, false, false, true, false, false, false, false] rfl rfl (any_of HT_.out (by kernel_rfl)) (fun _ _ _ h => h) (Or.inl ⟨by rfl, ?_⟩) ?_ ?_
                          rotate_left
                          · intro w'
                            go_simp
                            with_reducible rfl
                          rotate_left
                          · simp only [Act.put, List.setIfInBounds_toArray, List.set_cons_zero, List.set_cons_succ, i64_w, i32_w]
                            rfl
                          refine take_ (i := 4) (N := some 48) (v := ?_) (a' := ?_) #[true, false, false, true, true, false, false, false] rfl rfl (take_ofW HT_.out HW_.out (by kernel_rfl)) (fun _ _ _ h => h) (Or.inl ⟨by rfl, ?_⟩) hHeld ?_ ?_
                          rotate_left
                          · rintro w' ⟨s0, s1, s2, s3, s4⟩
                            go_simp
                            with_reducible rfl
                          rotate_left
                          · simp only [Act.put, List.setIfInBounds_toArray, List.set_cons_zero, List.set_cons_succ, i64_w, i32_w]
                            rfl
                          refine one_ (i := 1) (N := some 45) #[true, true, false, true, true, false, false, false] rfl rfl (one_of HT_.out (by kernel_rfl)) (by decide) (fun K hK => ?_)
                          refine value_ (w1 := ?_) (v := ?_) (by rfl) rfl ?_ ?_
                          rotate_left 2
                          · go_simp
                            constructor
                            · rfl
                            · rfl
                          refine hK.out _ _ ⟨(blk_cell (blk_alloc BK143.out _) 0).trans rfl, (blk_cell (blk_alloc BK143.out _) 1).trans rfl, (blk_cell (blk_alloc BK143.out _) 2).trans rfl, (blk_cell (blk_alloc BK143.out _) 3).trans rfl, (blk_cell (blk_alloc BK143.out _) 4).trans rfl⟩ (fun hHeld => ?_)
                          clear hK K
                          refine norm_ (a' := ?_) ?_ ?_
                          rotate_left
                          · show Act.put _ (some 45) _ = _
                            simp only [Act.put, List.setIfInBounds_toArray, List.set_cons_zero, List.set_cons_succ, i64_w, i32_w]
                            rfl
                          refine one_ (i := 2) (N := some 46) #[true, true, true, true, true, false, false, false] rfl rfl (one_of HT_.out (by kernel_rfl)) (by decide) (fun K hK => ?_)
                          refine Kd.R_append_step Kd.string (w0 := w) w.heap.size (by rfl) (.tmp 44) (.tmp 45) 35 9 (.string ⟨#[]⟩) 16 rfl Tryd.underlying35 info9 rfl (by decide) (by omega) v158 y157 (⟨#[101, 108, 115, 101]⟩ : ByteArray) [.string (⟨#[101, 108, 115, 101]⟩ : ByteArray)] (fun k_ => some k_ ≠ (.slice Ao34 t154.length co34 : Value).ownBlock) (fun _ => False) rfl rfl ?aP (fun _ hk => hk.elim) ?aF ?aO ?aB ?aS ?aL ?_
                          (case aP => exact rfl)
                          (case aB => exact (by repeat (first | (with_reducible first | exact HB.out | apply below_alloc | apply pw_below_drewN | apply below_drew1 | refine below_set ?_ GE143.out) | exact HB.out)))
                          (case aF => exact (fun k_ hk => Kd.fresh' (Kd.R_lt (by (with_reducible repeat (first | apply Kd.R_alloc | apply Kd.R_drewN | apply Kd.R_drew)); exact HO156.out)) k_ hk))
                          (case aO => exact (by (with_reducible repeat (first | apply Kd.R_alloc | apply Kd.R_drewN | apply Kd.R_drew)); exact HO159.out))
                          (case aS => exact (below_size (by repeat (first | (with_reducible first | exact HB.out | apply below_alloc | apply pw_below_drewN | apply below_drew1 | refine below_set ?_ GE143.out) | exact HB.out))))
                          (case aL => have := LMc24.out; omega)
                          intro v161 w37 ho hb hg hat
                          rw [← Ny160.out] at ho
                          have n0_ := Aside0.mk (blk_grown (g := gb143) (o := .cells #[.int .i64 ((rd_T86 l0 x9_1).f0), .int .i64 ((rd_T86 l0 x9_1).f1), .string ((rd_T86 l0 x9_1).f2), .slice A142_3 ((rd_T86 l0 x9_1).f3).length c142_3, .slice A142_4 ((rd_T86 l0 x9_1).f4).length c142_4] 86 (0, 0)) (by (with_reducible repeat (first | refine blk_drewN ?_ _ | refine blk_drew ?_ | refine blk_alloc ?_ _)); exact BK143.out) hg (Kd.R_ne HO159.out BK143.out (by decide)))
                          have n1_ := Aside0.mk (Kd.R_after (ok := (fun _ => True)) (by (with_reducible repeat (first | apply Kd.R_alloc | apply Kd.R_drewN | apply Kd.R_drew)); exact HO156.out) hg hat)
                          have n2_ := Aside0.mk (hb)
                          have n3_ := Aside0.mk (ho)
                          clear BK143
                          clear HO156
                          clear HB
                          clear HO159
                          have BK143 := n0_
                          have HO156 := n1_
                          have HB := n2_
                          have HO162 := n3_
                          clear n0_ n1_ n2_ n3_
                          clear ho hb hg hat
                          refine hK.out _ _ ⟨(blk_cell BK143.out 0).trans rfl, (blk_cell BK143.out 1).trans rfl, (blk_cell BK143.out 2).trans rfl, (blk_cell BK143.out 3).trans rfl, (blk_cell BK143.out 4).trans rfl⟩ (fun hHeld => ?_)
                          clear hK K
                          refine norm_ (a' := ?_) ?_ ?_
                          rotate_left
                          · show Act.put _ (some 46) _ = _
                            simp only [Act.put, List.setIfInBounds_toArray, List.set_cons_zero, List.set_cons_succ, i64_w, i32_w]
                            rfl
                          refine one_ (i := 5) (N := some 49) #[true, true, true, true, true, true, false, false] rfl rfl (one_of HT_.out (by kernel_rfl)) (by decide) (fun K hK => ?_)
                          refine goes_ Tryd.func49 (by kernel_rfl) rfl #[.slice A142_4 ((rd_T86 l0 x9_1).f4).length c142_4] (by rfl) rfl rfl (by (try simp only [List.map_toArray, List.map_cons, List.map_nil]); first | done | rfl | (simp only [List.length_drop, List.length_take]; rfl)) ?_
                          with_reducible refine (ih k1 (by have := HK1.out; omega) _ _ ((rd_T86 l0 x9_1).f4) t163 _ ?side1 ?side2 A25.out (by first | exact HG.out | exact GL.drewN HG.out _ | exact GL.drewN (GL.drewN HG.out _) _ | exact GL.of_below HG.out (by repeat (first | (with_reducible first | exact HB.out | apply below_alloc | apply pw_below_drewN | apply below_drew1 | refine below_set ?_ GE143.out) | exact HB.out)))).mono ?_
                          (case side1 => repeat (first | exact (Kd.C_below HR142_4.out HB.out) | (with_reducible refine Kd.C_alloc ?_ _) | (with_reducible refine Kd.C_drewN ?_ _) | (with_reducible refine Kd.C_drew ?_)))
                          (case side2 => exact HC142_4.out)
                          rintro e w38 ⟨v164, rfl, ho0, hb⟩
                          refine ⟨_, rfl, ?_⟩
                          have n0_ := Aside0.mk (Kd.R_elder' (by (with_reducible repeat (first | apply Kd.R_alloc | apply Kd.R_drewN | apply Kd.R_drew)); exact HO156.out) (Kd.R_base ho0) hb)
                          have n1_ := Aside0.mk (Kd.R_elder' (by (with_reducible repeat (first | apply Kd.R_alloc | apply Kd.R_drewN | apply Kd.R_drew)); exact HO162.out) (Kd.R_base ho0) hb)
                          have n2_ := Aside0.mk (Kd.R_lower (Kd.R_new' (Kd.R_new' ho0 (Kd.R_lt (by (with_reducible repeat (first | apply Kd.R_alloc | apply Kd.R_drewN | apply Kd.R_drew)); exact HO156.out))) (Kd.R_lt (by (with_reducible repeat (first | apply Kd.R_alloc | apply Kd.R_drewN | apply Kd.R_drew)); exact HO162.out))) (below_size (by repeat (first | (with_reducible first | exact HB.out | apply below_alloc | apply pw_below_drewN | apply below_drew1 | refine below_set ?_ GE143.out) | exact HB.out))))
                          have n3_ := Aside0.mk (blk_below (g := gb143) (o := .cells #[.int .i64 ((rd_T86 l0 x9_1).f0), .int .i64 ((rd_T86 l0 x9_1).f1), .string ((rd_T86 l0 x9_1).f2), .slice A142_3 ((rd_T86 l0 x9_1).f3).length c142_3, .slice A142_4 ((rd_T86 l0 x9_1).f4).length c142_4] 86 (0, 0)) (by (with_reducible repeat (first | refine blk_drewN ?_ _ | refine blk_drew ?_ | refine blk_alloc ?_ _)); exact BK143.out) hb)
                          have n4_ := Aside0.mk (below_step (by repeat (first | (with_reducible first | exact HB.out | apply below_alloc | apply pw_below_drewN | apply below_drew1 | refine below_set ?_ GE143.out) | exact HB.out)) hb)
                          clear HO156
                          clear HO162
                          clear BK143
                          clear HB
                          have HO156 := n0_
                          have HO162 := n1_
                          have HO165 := n2_
                          have BK143 := n3_
                          have HB := n4_
                          clear n0_ n1_ n2_ n3_ n4_
                          (try clear hb)
                          (try clear hb2)
                          (try clear hk)
                          (try clear hi)
                          (try clear ho0)
                          obtain ⟨Ao40, co40, eo40⟩ := Kd.R_slice HO165.out
                          (first | subst eo40 | (injection eo40 with f1_ f2_ f3_; have f4_ := f1_.symm; have f5_ := f3_.symm; clear f1_ f2_ f3_; subst f4_; subst f5_))
                          refine hK.out _ _ ⟨(blk_cell BK143.out 0).trans rfl, (blk_cell BK143.out 1).trans rfl, (blk_cell BK143.out 2).trans rfl, (blk_cell BK143.out 3).trans rfl, (blk_cell BK143.out 4).trans rfl⟩ (fun hHeld => ?_)
                          clear hK K
                          refine norm_ (a' := ?_) ?_ ?_
                          rotate_left
                          · show Act.put _ (some 49) _ = _
                            simp only [Act.put, List.setIfInBounds_toArray, List.set_cons_zero, List.set_cons_succ, i64_w, i32_w]
                            rfl
                          refine one_ (i := 6) (N := some 50) #[true, true, true, true, true, true, true, false] rfl rfl (one_of HT_.out (by kernel_rfl)) (by decide) (fun K hK => ?_)
                          refine Kd.R_append_rows_step Kd.string (w0 := w) w.heap.size (by rfl) (.tmp 46) (.tmp 49) 35 9 (.string ⟨#[]⟩) 16 rfl Tryd.underlying35 info9 rfl (by decide) (by omega) v161 y160 t163 _ _ _ (fun k_ => some k_ ≠ (.slice Ao34 t154.length co34 : Value).ownBlock ∧ some k_ ≠ (.slice Ao40 t163.length co40 : Value).ownBlock) (fun _ => False) rfl rfl ?aO ?aR (fun _ _ h => h) (fun _ h => h.elim) ?aF ?aB ?aS ?aL ?_
                          (case aR => repeat (first | exact (Kd.R_reads' HO165.out).2.2 | (with_reducible refine Kd.C_alloc ?_ _) | (with_reducible refine Kd.C_drewN ?_ _) | (with_reducible refine Kd.C_drew ?_)))
                          (case aB => exact (by repeat (first | (with_reducible first | exact HB.out | apply below_alloc | apply pw_below_drewN | apply below_drew1 | refine below_set ?_ GE143.out) | exact HB.out)))
                          (case aF => exact (fun k_ hk => ⟨Kd.fresh' (Kd.R_lt (by (with_reducible repeat (first | apply Kd.R_alloc | apply Kd.R_drewN | apply Kd.R_drew)); exact HO156.out)) k_ hk, Kd.fresh' (Kd.R_lt (by (with_reducible repeat (first | apply Kd.R_alloc | apply Kd.R_drewN | apply Kd.R_drew)); exact HO165.out)) k_ hk⟩))
                          (case aO => exact (by (with_reducible repeat (first | apply Kd.R_alloc | apply Kd.R_drewN | apply Kd.R_drew)); exact HO162.out))
                          (case aS => exact (below_size (by repeat (first | (with_reducible first | exact HB.out | apply below_alloc | apply pw_below_drewN | apply below_drew1 | refine below_set ?_ GE143.out) | exact HB.out))))
                          (case aL => have := LMc26.out; omega)
                          intro v167 w39 ho hb hg hat
                          rw [← Ny166.out] at ho
                          have n0_ := Aside0.mk (blk_grown (g := gb143) (o := .cells #[.int .i64 ((rd_T86 l0 x9_1).f0), .int .i64 ((rd_T86 l0 x9_1).f1), .string ((rd_T86 l0 x9_1).f2), .slice A142_3 ((rd_T86 l0 x9_1).f3).length c142_3, .slice A142_4 ((rd_T86 l0 x9_1).f4).length c142_4] 86 (0, 0)) (by (with_reducible repeat (first | refine blk_drewN ?_ _ | refine blk_drew ?_ | refine blk_alloc ?_ _)); exact BK143.out) hg (Kd.R_ne HO162.out BK143.out (by decide)))
                          have n1_ := Aside0.mk (Kd.R_after (ok := (fun k_ => some k_ ≠ (.slice Ao40 t163.length co40 : Value).ownBlock)) (by (with_reducible repeat (first | apply Kd.R_alloc | apply Kd.R_drewN | apply Kd.R_drew)); exact Kd.R_mono HO156.out (fun _ hk => ⟨hk.2, hk.1.2⟩)) hg hat)
                          have n2_ := Aside0.mk (Kd.R_after (ok := (fun k_ => some k_ ≠ (.slice Ao34 t154.length co34 : Value).ownBlock)) (by (with_reducible repeat (first | apply Kd.R_alloc | apply Kd.R_drewN | apply Kd.R_drew)); exact Kd.R_mono HO165.out (fun _ hk => ⟨hk.1.2, hk.2⟩)) hg hat)
                          have n3_ := Aside0.mk (hb)
                          have n4_ := Aside0.mk (ho)
                          clear BK143
                          clear HO156
                          clear HO165
                          clear HB
                          clear HO162
                          have BK143 := n0_
                          have HO156 := n1_
                          have HO165 := n2_
                          have HB := n3_
                          have HO168 := n4_
                          clear n0_ n1_ n2_ n3_ n4_
                          clear ho hb hg hat
                          refine hK.out _ _ ⟨(blk_cell BK143.out 0).trans rfl, (blk_cell BK143.out 1).trans rfl, (blk_cell BK143.out 2).trans rfl, (blk_cell BK143.out 3).trans rfl, (blk_cell BK143.out 4).trans rfl⟩ (fun hHeld => ?_)
                          clear hK K
                          refine norm_ (a' := ?_) ?_ ?_
                          rotate_left
                          · show Act.put _ (some 50) _ = _
                            simp only [Act.put, List.setIfInBounds_toArray, List.set_cons_zero, List.set_cons_succ, i64_w, i32_w]
                            rfl
                          refine pure_ (i := 7) (N := some 3) (v := ?_) (a' := ?_) #[true, true, true, true, true, true, true, true] rfl rfl (any_of HT_.out (by kernel_rfl)) (fun _ _ _ h => h) (Or.inl ⟨by rfl, ?_⟩) ?_ ?_
                          rotate_left
                          · intro w'
                            go_simp
                            with_reducible rfl
                          rotate_left
                          · simp only [Act.put, List.setIfInBounds_toArray, List.set_cons_zero, List.set_cons_succ, i64_w, i32_w]
                            rfl
                          refine done_ (done_of HT_.out (by kernel_rfl)) ?_
                          try go_wp2
                          go_roundg k1
                          case measure => have := HK1.out; omega
                          case rel => exact ⟨(y166), (wrap64 (x9_1 + 1)), (by first | rfl | (simp; done) | (simp [*]; done)), H', ⟨by have := HK1.out; omega⟩, ⟨by (with_reducible repeat (first | apply Kd.R_alloc | apply Kd.R_drewN | apply Kd.R_drew)); exact Kd.R_mono HO168.out (fun _ hk => trivial)⟩, ⟨by repeat (first | (with_reducible first | exact HB.out | apply below_alloc | apply pw_below_drewN | apply below_drew1 | refine below_set ?_ GE143.out) | exact HB.out)⟩⟩
                        · rw [if_neg c26] at H
                          exact absurd H (by simp)
                      · rw [if_neg c24] at H
                        exact absurd H (by simp)
                    · rw [if_neg c23] at H
                      have c23b0 : decide (0 < (((rd_T86 l0 x9_1).f4).length : Int)) = false := decide_eq_false c23
                      have c23b1 : decide (0 < ((rd_T86 l0 x9_1).f4).length) = false := decide_eq_false (by omega)
                      clear c23
                      have H' := Aside0.mk H
                      clear H
                      have p142 : 0 ≤ (x9_1 : Int) := of_decide_eq_true (by first | (with_reducible assumption) | assumption)
                      have q142 : x9_1 < (l0.length : Int) := of_decide_eq_true (by first | (with_reducible assumption) | assumption)
                      obtain ⟨ad142, A142_3, c142_3, A142_4, c142_4, e142, hx142_0, hx142_1, hx142_2, hx142_3, hx142_4, hl142_3, hi142_3, hl142_4, hi142_4⟩ := at_T86 HR0.out x9_1 p142 q142
                      cases e142
                      replace hx142_0 := (HB.out.cell (World.block_lt_of_cell? w _ hx142_0)).trans hx142_0
                      replace hx142_1 := (HB.out.cell (World.block_lt_of_cell? w _ hx142_1)).trans hx142_1
                      replace hx142_2 := (HB.out.cell (World.block_lt_of_cell? w _ hx142_2)).trans hx142_2
                      replace hx142_3 := (HB.out.cell (World.block_lt_of_cell? w _ hx142_3)).trans hx142_3
                      replace hx142_4 := (HB.out.cell (World.block_lt_of_cell? w _ hx142_4)).trans hx142_4
                      have HR142_3 := Aside0.mk hi142_3
                      have HC142_3 := Aside0.mk hl142_3
                      clear hi142_3 hl142_3
                      have HR142_4 := Aside0.mk hi142_4
                      have HC142_4 := Aside0.mk hl142_4
                      clear hi142_4 hl142_4
                      replace p142 := eq_true p142
                      replace q142 := eq_true q142
                      go_wp2_with (first | ((with_reducible refine gate_dst (N := 5) rfl ?_); refine box_event ?hg (N := 5) ?hd (cs := #[.int .i64 0, .int .i64 0, .string (⟨#[]⟩ : ByteArray), .slice none 0 0, .slice none 0 0]) (t := 86) ?hr ?_; (case hd => rfl); (case hg => rfl); (case hr => first | (go_simp; done) | (go_simp; rfl)); intro gb143 hg w41 hbox hb; have n0_ := Aside0.mk (Kd.R_below (by (with_reducible repeat (first | apply Kd.R_alloc | apply Kd.R_drewN | apply Kd.R_drew)); exact HO_3.out) hb); have n1_ := Aside0.mk (below_step (by repeat (first | (with_reducible first | exact HB.out | apply below_alloc | apply pw_below_drewN | apply below_drew1) | exact HB.out)) hb); have n2_ := Aside0.mk (hbox); have n3_ := Aside0.mk ((by rw [hg]; exact (below_size (by repeat (first | (with_reducible first | exact HB.out | apply below_alloc | apply pw_below_drewN | apply below_drew1) | exact HB.out))) : w.heap.size ≤ gb143)); have n4_ := Aside0.mk ((by rw [hg]; exact (below_size (by repeat (first | (with_reducible first | exact HB.out | apply below_alloc | apply pw_below_drewN | apply below_drew1) | exact HB.out))) : w.heap.size ≤ gb143)); clear HO_3; clear HB; have HO_3 := n0_; have HB := n1_; have BK143 := n2_; have GW143 := n3_; have GE143 := n4_; clear n0_ n1_ n2_ n3_ n4_; clear hb hbox hg; have hcz42_0 : w41.cell? ⟨gb143, 0, none⟩ = some (.int .i64 0) := (blk_cell BK143.out 0).trans rfl; have hcz42_1 : w41.cell? ⟨gb143, 1, none⟩ = some (.int .i64 0) := (blk_cell BK143.out 1).trans rfl; have hcz42_2 : w41.cell? ⟨gb143, 2, none⟩ = some (.string (⟨#[]⟩ : ByteArray)) := (blk_cell BK143.out 2).trans rfl; have hcz42_3 : w41.cell? ⟨gb143, 3, none⟩ = some (.slice none 0 0) := (blk_cell BK143.out 3).trans rfl; have hcz42_4 : w41.cell? ⟨gb143, 4, none⟩ = some (.slice none 0 0) := (blk_cell BK143.out 4).trans rfl; have hfz42_0 := blk_frozen BK143.out 0; have hfz42_1 := blk_frozen BK143.out 1; have hfz42_2 := blk_frozen BK143.out 2; have hfz42_3 := blk_frozen BK143.out 3; have hfz42_4 := blk_frozen BK143.out 4) | ((with_reducible refine gate_callee (f := 77) rfl ?_); refine goesL_ (some 16) rfl rfl Tryd.func77 (by kernel_rfl) rfl #[.int .i64 ((rd_T86 l0 x9_1).f0)] rfl (by (try simp only [List.map_toArray, List.map_cons, List.map_nil]); first | done | rfl | (simp only [List.length_drop, List.length_take]; rfl)) ?_; (with_reducible refine (parse_word.calls ((rd_T86 l0 x9_1).f0) t144 _ A7.out (by first | exact HG.out | exact GL.drewN HG.out _ | exact GL.drewN (GL.drewN HG.out _) _ | exact GL.of_below HG.out (by repeat (first | (with_reducible first | exact HB.out | apply below_alloc | apply pw_below_drewN | apply below_drew1 | refine below_set ?_ GE143.out) | exact HB.out)))).mono ?_); rintro e w43 ⟨rfl, hb⟩; refine ⟨_, rfl, ?_⟩; have n0_ := Aside0.mk (Kd.R_below (by (with_reducible repeat (first | apply Kd.R_alloc | apply Kd.R_drewN | apply Kd.R_drew)); exact (Kd.R_mono (Kd.R_far (p := ⟨gb143, 4, none⟩) (Kd.R_far (p := ⟨gb143, 3, none⟩) (Kd.R_far (p := ⟨gb143, 2, none⟩) (Kd.R_far (p := ⟨gb143, 1, none⟩) (Kd.R_far (p := ⟨gb143, 0, none⟩) (Kd.R_types HO_3.out BK143.out (by decide)) (fun _ hk => hk.2) (.int .i64 ((rd_T86 l0 x9_1).f0))) (fun _ hk => hk.2) (.int .i64 ((rd_T86 l0 x9_1).f1))) (fun _ hk => hk.2) (.string ((rd_T86 l0 x9_1).f2))) (fun _ hk => hk.2) (.slice A142_3 ((rd_T86 l0 x9_1).f3).length c142_3)) (fun _ hk => hk.2) (.slice A142_4 ((rd_T86 l0 x9_1).f4).length c142_4)) (fun _ h_ => h_.1))) hb); have n1_ := Aside0.mk (blk_below (g := gb143) (o := .cells #[.int .i64 ((rd_T86 l0 x9_1).f0), .int .i64 ((rd_T86 l0 x9_1).f1), .string ((rd_T86 l0 x9_1).f2), .slice A142_3 ((rd_T86 l0 x9_1).f3).length c142_3, .slice A142_4 ((rd_T86 l0 x9_1).f4).length c142_4] 86 (0, 0)) (by (with_reducible repeat (first | refine blk_drewN ?_ _ | refine blk_drew ?_ | refine blk_alloc ?_ _)); refine blk_put (cs := #[.int .i64 ((rd_T86 l0 x9_1).f0), .int .i64 ((rd_T86 l0 x9_1).f1), .string ((rd_T86 l0 x9_1).f2), .slice A142_3 ((rd_T86 l0 x9_1).f3).length c142_3, .slice none 0 0]) ?_ 4 _ rfl; (with_reducible repeat (first | refine blk_drewN ?_ _ | refine blk_drew ?_ | refine blk_alloc ?_ _)); refine blk_put (cs := #[.int .i64 ((rd_T86 l0 x9_1).f0), .int .i64 ((rd_T86 l0 x9_1).f1), .string ((rd_T86 l0 x9_1).f2), .slice none 0 0, .slice none 0 0]) ?_ 3 _ rfl; (with_reducible repeat (first | refine blk_drewN ?_ _ | refine blk_drew ?_ | refine blk_alloc ?_ _)); refine blk_put (cs := #[.int .i64 ((rd_T86 l0 x9_1).f0), .int .i64 ((rd_T86 l0 x9_1).f1), .string (⟨#[]⟩ : ByteArray), .slice none 0 0, .slice none 0 0]) ?_ 2 _ rfl; (with_reducible repeat (first | refine blk_drewN ?_ _ | refine blk_drew ?_ | refine blk_alloc ?_ _)); refine blk_put (cs := #[.int .i64 ((rd_T86 l0 x9_1).f0), .int .i64 0, .string (⟨#[]⟩ : ByteArray), .slice none 0 0, .slice none 0 0]) ?_ 1 _ rfl; (with_reducible repeat (first | refine blk_drewN ?_ _ | refine blk_drew ?_ | refine blk_alloc ?_ _)); refine blk_put (cs := #[.int .i64 0, .int .i64 0, .string (⟨#[]⟩ : ByteArray), .slice none 0 0, .slice none 0 0]) ?_ 0 _ rfl; (with_reducible repeat (first | refine blk_drewN ?_ _ | refine blk_drew ?_ | refine blk_alloc ?_ _)); exact BK143.out) hb); have n2_ := Aside0.mk (below_step (by repeat (first | (with_reducible first | exact HB.out | apply below_alloc | apply pw_below_drewN | apply below_drew1 | refine below_set ?_ GE143.out) | exact HB.out)) hb); clear HO_3; clear BK143; clear HB; have HO_3 := n0_; have BK143 := n1_; have HB := n2_; clear n0_ n1_ n2_; (try clear hb); (try clear hb2); (try clear hk); (try clear hi)) | ((with_reducible refine gate_builtin (b := .append) (xs := #[.tmp 13, .tmp 17]) rfl ?_); at_builtin; refine Kd.R_append Kd.string (w0 := w) w.heap.size rfl (.tmp 13) (.tmp 17) 35 9 (.string ⟨#[]⟩) 16 rfl Tryd.underlying35 info9 rfl (by decide) (by omega) u3 x3_1 t144 [.string t144] (fun _ => True) (fun _ => False) rfl rfl ?aP (fun _ hk => hk.elim) ?aF ?aO ?aB ?aS ?aL ?_; (case aP => exact rfl); (case aB => exact (by repeat (first | (with_reducible first | exact HB.out | apply below_alloc | apply pw_below_drewN | apply below_drew1 | refine below_set ?_ GE143.out) | exact HB.out))); (case aF => exact (fun _ _ => trivial)); (case aO => exact (by (with_reducible repeat (first | apply Kd.R_alloc | apply Kd.R_drewN | apply Kd.R_drew)); exact HO_3.out)); (case aS => exact (below_size (by repeat (first | (with_reducible first | exact HB.out | apply below_alloc | apply pw_below_drewN | apply below_drew1 | refine below_set ?_ GE143.out) | exact HB.out)))); (case aL => have := LMc8.out; omega); intro v146 w44 ho hb hg hat; rw [← Ny145.out] at ho; have n0_ := Aside0.mk (blk_grown (g := gb143) (o := .cells #[.int .i64 ((rd_T86 l0 x9_1).f0), .int .i64 ((rd_T86 l0 x9_1).f1), .string ((rd_T86 l0 x9_1).f2), .slice A142_3 ((rd_T86 l0 x9_1).f3).length c142_3, .slice A142_4 ((rd_T86 l0 x9_1).f4).length c142_4] 86 (0, 0)) (by (with_reducible repeat (first | refine blk_drewN ?_ _ | refine blk_drew ?_ | refine blk_alloc ?_ _)); exact BK143.out) hg (Kd.R_ne HO_3.out BK143.out (by decide))); have n1_ := Aside0.mk (hb); have n2_ := Aside0.mk (ho); clear BK143; clear HB; clear HO_3; have BK143 := n0_; have HB := n1_; have HO147 := n2_; clear n0_ n1_ n2_; clear ho hb hg hat; have hcz45_0 : w44.cell? ⟨gb143, 0, none⟩ = some (.int .i64 ((rd_T86 l0 x9_1).f0)) := (blk_cell BK143.out 0).trans rfl; have hcz45_1 : w44.cell? ⟨gb143, 1, none⟩ = some (.int .i64 ((rd_T86 l0 x9_1).f1)) := (blk_cell BK143.out 1).trans rfl; have hcz45_2 : w44.cell? ⟨gb143, 2, none⟩ = some (.string ((rd_T86 l0 x9_1).f2)) := (blk_cell BK143.out 2).trans rfl; have hcz45_3 : w44.cell? ⟨gb143, 3, none⟩ = some (.slice A142_3 ((rd_T86 l0 x9_1).f3).length c142_3) := (blk_cell BK143.out 3).trans rfl; have hcz45_4 : w44.cell? ⟨gb143, 4, none⟩ = some (.slice A142_4 ((rd_T86 l0 x9_1).f4).length c142_4) := (blk_cell BK143.out 4).trans rfl; have hfz45_0 := blk_frozen BK143.out 0; have hfz45_1 := blk_frozen BK143.out 1; have hfz45_2 := blk_frozen BK143.out 2; have hfz45_3 := blk_frozen BK143.out 3; have hfz45_4 := blk_frozen BK143.out 4) | ((with_reducible refine gate_callee (f := 49) rfl ?_); refine goesL_ (some 38) rfl rfl Tryd.func49 (by kernel_rfl) rfl #[.slice A142_3 ((rd_T86 l0 x9_1).f3).length c142_3] rfl (by (try simp only [List.map_toArray, List.map_cons, List.map_nil]); first | done | rfl | (simp only [List.length_drop, List.length_take]; rfl)) ?_; (with_reducible refine (ih k1 (by have := HK1.out; omega) _ _ ((rd_T86 l0 x9_1).f3) t154 _ ?side1 ?side2 A21.out (by first | exact HG.out | exact GL.drewN HG.out _ | exact GL.drewN (GL.drewN HG.out _) _ | exact GL.of_below HG.out (by repeat (first | (with_reducible first | exact HB.out | apply below_alloc | apply pw_below_drewN | apply below_drew1 | refine below_set ?_ GE143.out) | exact HB.out)))).mono ?_); (case side1 => repeat (first | exact (Kd.C_below HR142_3.out HB.out) | (with_reducible refine Kd.C_alloc ?_ _) | (with_reducible refine Kd.C_drewN ?_ _) | (with_reducible refine Kd.C_drew ?_))); (case side2 => exact HC142_3.out); rintro e w46 ⟨v155, rfl, ho0, hb⟩; refine ⟨_, rfl, ?_⟩; have n0_ := Aside0.mk (Kd.R_elder' (by (with_reducible repeat (first | apply Kd.R_alloc | apply Kd.R_drewN | apply Kd.R_drew)); exact HO147.out) (Kd.R_base ho0) hb); have n1_ := Aside0.mk (Kd.R_lower (Kd.R_new' ho0 (Kd.R_lt (by (with_reducible repeat (first | apply Kd.R_alloc | apply Kd.R_drewN | apply Kd.R_drew)); exact HO147.out))) (below_size (by repeat (first | (with_reducible first | exact HB.out | apply below_alloc | apply pw_below_drewN | apply below_drew1 | refine below_set ?_ GE143.out) | exact HB.out)))); have n2_ := Aside0.mk (blk_below (g := gb143) (o := .cells #[.int .i64 ((rd_T86 l0 x9_1).f0), .int .i64 ((rd_T86 l0 x9_1).f1), .string ((rd_T86 l0 x9_1).f2), .slice A142_3 ((rd_T86 l0 x9_1).f3).length c142_3, .slice A142_4 ((rd_T86 l0 x9_1).f4).length c142_4] 86 (0, 0)) (by (with_reducible repeat (first | refine blk_drewN ?_ _ | refine blk_drew ?_ | refine blk_alloc ?_ _)); exact BK143.out) hb); have n3_ := Aside0.mk (below_step (by repeat (first | (with_reducible first | exact HB.out | apply below_alloc | apply pw_below_drewN | apply below_drew1 | refine below_set ?_ GE143.out) | exact HB.out)) hb); clear HO147; clear BK143; clear HB; have HO147 := n0_; have HO156 := n1_; have BK143 := n2_; have HB := n3_; clear n0_ n1_ n2_ n3_; (try clear hb); (try clear hb2); (try clear hk); (try clear hi); (try clear ho0); obtain ⟨Ao48, co48, eo48⟩ := Kd.R_slice HO156.out; subst eo48) | ((with_reducible refine gate_builtin (b := .append) (xs := #[.tmp 35, .tmp 38]) rfl ?_); at_builtin; refine Kd.R_append_rows Kd.string (w0 := w) w.heap.size rfl (.tmp 35) (.tmp 38) 35 9 (.string ⟨#[]⟩) 16 rfl Tryd.underlying35 info9 rfl (by decide) (by omega) v146 y145 t154 _ _ _ (fun k_ => some k_ ≠ (.slice Ao48 t154.length co48 : Value).ownBlock) (fun _ => False) rfl rfl ?aO ?aR (fun _ _ h => h) (fun _ h => h.elim) ?aF ?aB ?aS ?aL ?_; (case aR => repeat (first | exact (Kd.R_reads' HO156.out).2.2 | (with_reducible refine Kd.C_alloc ?_ _) | (with_reducible refine Kd.C_drewN ?_ _) | (with_reducible refine Kd.C_drew ?_))); (case aB => exact (by repeat (first | (with_reducible first | exact HB.out | apply below_alloc | apply pw_below_drewN | apply below_drew1 | refine below_set ?_ GE143.out) | exact HB.out))); (case aF => exact (fun k_ hk => Kd.fresh' (Kd.R_lt (by (with_reducible repeat (first | apply Kd.R_alloc | apply Kd.R_drewN | apply Kd.R_drew)); exact HO156.out)) k_ hk)); (case aO => exact (by (with_reducible repeat (first | apply Kd.R_alloc | apply Kd.R_drewN | apply Kd.R_drew)); exact Kd.R_mono HO147.out (fun _ hk => hk.2))); (case aS => exact (below_size (by repeat (first | (with_reducible first | exact HB.out | apply below_alloc | apply pw_below_drewN | apply below_drew1 | refine below_set ?_ GE143.out) | exact HB.out)))); (case aL => have := LMc22.out; omega); intro v158 w47 ho hb hg hat; rw [← Ny157.out] at ho; have n0_ := Aside0.mk (blk_grown (g := gb143) (o := .cells #[.int .i64 ((rd_T86 l0 x9_1).f0), .int .i64 ((rd_T86 l0 x9_1).f1), .string ((rd_T86 l0 x9_1).f2), .slice A142_3 ((rd_T86 l0 x9_1).f3).length c142_3, .slice A142_4 ((rd_T86 l0 x9_1).f4).length c142_4] 86 (0, 0)) (by (with_reducible repeat (first | refine blk_drewN ?_ _ | refine blk_drew ?_ | refine blk_alloc ?_ _)); exact BK143.out) hg (Kd.R_ne HO147.out BK143.out (by decide))); have n1_ := Aside0.mk (Kd.R_after (ok := (fun _ => True)) (by (with_reducible repeat (first | apply Kd.R_alloc | apply Kd.R_drewN | apply Kd.R_drew)); exact HO156.out) hg hat); have n2_ := Aside0.mk (hb); have n3_ := Aside0.mk (ho); clear BK143; clear HO156; clear HB; clear HO147; have BK143 := n0_; have HO156 := n1_; have HB := n2_; have HO159 := n3_; clear n0_ n1_ n2_ n3_; clear ho hb hg hat; have hcz49_0 : w47.cell? ⟨gb143, 0, none⟩ = some (.int .i64 ((rd_T86 l0 x9_1).f0)) := (blk_cell BK143.out 0).trans rfl; have hcz49_1 : w47.cell? ⟨gb143, 1, none⟩ = some (.int .i64 ((rd_T86 l0 x9_1).f1)) := (blk_cell BK143.out 1).trans rfl; have hcz49_2 : w47.cell? ⟨gb143, 2, none⟩ = some (.string ((rd_T86 l0 x9_1).f2)) := (blk_cell BK143.out 2).trans rfl; have hcz49_3 : w47.cell? ⟨gb143, 3, none⟩ = some (.slice A142_3 ((rd_T86 l0 x9_1).f3).length c142_3) := (blk_cell BK143.out 3).trans rfl; have hcz49_4 : w47.cell? ⟨gb143, 4, none⟩ = some (.slice A142_4 ((rd_T86 l0 x9_1).f4).length c142_4) := (blk_cell BK143.out 4).trans rfl; have hfz49_0 := blk_frozen BK143.out 0; have hfz49_1 := blk_frozen BK143.out 1; have hfz49_2 := blk_frozen BK143.out 2; have hfz49_3 := blk_frozen BK143.out 3; have hfz49_4 := blk_frozen BK143.out 4))
                      go_roundg k1
                      case measure => have := HK1.out; omega
                      case rel => exact ⟨(y157), (wrap64 (x9_1 + 1)), (by first | rfl | (simp; done) | (simp [*]; done)), H', ⟨by have := HK1.out; omega⟩, ⟨by (with_reducible repeat (first | apply Kd.R_alloc | apply Kd.R_drewN | apply Kd.R_drew)); exact Kd.R_mono HO159.out (fun _ hk => trivial)⟩, ⟨by repeat (first | (with_reducible first | exact HB.out | apply below_alloc | apply pw_below_drewN | apply below_drew1 | refine below_set ?_ GE143.out) | exact HB.out)⟩⟩
                  · rw [if_neg c22] at H
                    exact absurd H (by simp)
                · rw [if_neg c20] at H
                  have c20b0 : (((rd_T86 l0 x9_1).f0) == 7) = false := beq_eq_false_iff_ne.mpr c20
                  have c20b1 : (((rd_T86 l0 x9_1).f0) != 7) = true := bne_iff_ne.mpr c20
                  by_cases c50 : y145.length < 8796093022208
                  · rw [if_pos c50] at H
                    have LMc50 := Aside0.mk c50
                    clear c50
                    obtain ⟨y169, hy169⟩ : ∃ y_ : List ByteArray, y_ = (y145 ++ [(rd_T86 l0 x9_1).f2]) := ⟨_, rfl⟩
                    replace H : (parse_words.l0 k1 y169 l0 (l0.length : Int) (wrap64 (x9_1 + 1))) = some r := by first | (rw [hy169]; with_reducible exact H) | (have H2_ := (Option.bind_some _ _).symm.trans H; rw [hy169]; with_reducible exact H2_) | (have H2_ := (Option.bind_some _ _).symm.trans H; with_reducible exact H2_) | with_reducible exact H | (rw [hy169]; exact H) | exact H
                    have Ny169 := Aside0.mk hy169
                    clear hy169
                    have H' := Aside0.mk H
                    clear H
                    have p142 : 0 ≤ (x9_1 : Int) := of_decide_eq_true (by first | (with_reducible assumption) | assumption)
                    have q142 : x9_1 < (l0.length : Int) := of_decide_eq_true (by first | (with_reducible assumption) | assumption)
                    obtain ⟨ad142, A142_3, c142_3, A142_4, c142_4, e142, hx142_0, hx142_1, hx142_2, hx142_3, hx142_4, hl142_3, hi142_3, hl142_4, hi142_4⟩ := at_T86 HR0.out x9_1 p142 q142
                    cases e142
                    replace hx142_0 := (HB.out.cell (World.block_lt_of_cell? w _ hx142_0)).trans hx142_0
                    replace hx142_1 := (HB.out.cell (World.block_lt_of_cell? w _ hx142_1)).trans hx142_1
                    replace hx142_2 := (HB.out.cell (World.block_lt_of_cell? w _ hx142_2)).trans hx142_2
                    replace hx142_3 := (HB.out.cell (World.block_lt_of_cell? w _ hx142_3)).trans hx142_3
                    replace hx142_4 := (HB.out.cell (World.block_lt_of_cell? w _ hx142_4)).trans hx142_4
                    have HR142_3 := Aside0.mk hi142_3
                    have HC142_3 := Aside0.mk hl142_3
                    clear hi142_3 hl142_3
                    have HR142_4 := Aside0.mk hi142_4
                    have HC142_4 := Aside0.mk hl142_4
                    clear hi142_4 hl142_4
                    replace p142 := eq_true p142
                    replace q142 := eq_true q142
                    go_wp2_with (first | ((with_reducible refine gate_dst (N := 5) rfl ?_); refine box_event ?hg (N := 5) ?hd (cs := #[.int .i64 0, .int .i64 0, .string (⟨#[]⟩ : ByteArray), .slice none 0 0, .slice none 0 0]) (t := 86) ?hr ?_; (case hd => rfl); (case hg => rfl); (case hr => first | (go_simp; done) | (go_simp; rfl)); intro gb143 hg w51 hbox hb; have n0_ := Aside0.mk (Kd.R_below (by (with_reducible repeat (first | apply Kd.R_alloc | apply Kd.R_drewN | apply Kd.R_drew)); exact HO_3.out) hb); have n1_ := Aside0.mk (below_step (by repeat (first | (with_reducible first | exact HB.out | apply below_alloc | apply pw_below_drewN | apply below_drew1) | exact HB.out)) hb); have n2_ := Aside0.mk (hbox); have n3_ := Aside0.mk ((by rw [hg]; exact (below_size (by repeat (first | (with_reducible first | exact HB.out | apply below_alloc | apply pw_below_drewN | apply below_drew1) | exact HB.out))) : w.heap.size ≤ gb143)); have n4_ := Aside0.mk ((by rw [hg]; exact (below_size (by repeat (first | (with_reducible first | exact HB.out | apply below_alloc | apply pw_below_drewN | apply below_drew1) | exact HB.out))) : w.heap.size ≤ gb143)); clear HO_3; clear HB; have HO_3 := n0_; have HB := n1_; have BK143 := n2_; have GW143 := n3_; have GE143 := n4_; clear n0_ n1_ n2_ n3_ n4_; clear hb hbox hg; have hcz52_0 : w51.cell? ⟨gb143, 0, none⟩ = some (.int .i64 0) := (blk_cell BK143.out 0).trans rfl; have hcz52_1 : w51.cell? ⟨gb143, 1, none⟩ = some (.int .i64 0) := (blk_cell BK143.out 1).trans rfl; have hcz52_2 : w51.cell? ⟨gb143, 2, none⟩ = some (.string (⟨#[]⟩ : ByteArray)) := (blk_cell BK143.out 2).trans rfl; have hcz52_3 : w51.cell? ⟨gb143, 3, none⟩ = some (.slice none 0 0) := (blk_cell BK143.out 3).trans rfl; have hcz52_4 : w51.cell? ⟨gb143, 4, none⟩ = some (.slice none 0 0) := (blk_cell BK143.out 4).trans rfl; have hfz52_0 := blk_frozen BK143.out 0; have hfz52_1 := blk_frozen BK143.out 1; have hfz52_2 := blk_frozen BK143.out 2; have hfz52_3 := blk_frozen BK143.out 3; have hfz52_4 := blk_frozen BK143.out 4) | ((with_reducible refine gate_callee (f := 77) rfl ?_); refine goesL_ (some 16) rfl rfl Tryd.func77 (by kernel_rfl) rfl #[.int .i64 ((rd_T86 l0 x9_1).f0)] rfl (by (try simp only [List.map_toArray, List.map_cons, List.map_nil]); first | done | rfl | (simp only [List.length_drop, List.length_take]; rfl)) ?_; (with_reducible refine (parse_word.calls ((rd_T86 l0 x9_1).f0) t144 _ A7.out (by first | exact HG.out | exact GL.drewN HG.out _ | exact GL.drewN (GL.drewN HG.out _) _ | exact GL.of_below HG.out (by repeat (first | (with_reducible first | exact HB.out | apply below_alloc | apply pw_below_drewN | apply below_drew1 | refine below_set ?_ GE143.out) | exact HB.out)))).mono ?_); rintro e w53 ⟨rfl, hb⟩; refine ⟨_, rfl, ?_⟩; have n0_ := Aside0.mk (Kd.R_below (by (with_reducible repeat (first | apply Kd.R_alloc | apply Kd.R_drewN | apply Kd.R_drew)); exact (Kd.R_mono (Kd.R_far (p := ⟨gb143, 4, none⟩) (Kd.R_far (p := ⟨gb143, 3, none⟩) (Kd.R_far (p := ⟨gb143, 2, none⟩) (Kd.R_far (p := ⟨gb143, 1, none⟩) (Kd.R_far (p := ⟨gb143, 0, none⟩) (Kd.R_types HO_3.out BK143.out (by decide)) (fun _ hk => hk.2) (.int .i64 ((rd_T86 l0 x9_1).f0))) (fun _ hk => hk.2) (.int .i64 ((rd_T86 l0 x9_1).f1))) (fun _ hk => hk.2) (.string ((rd_T86 l0 x9_1).f2))) (fun _ hk => hk.2) (.slice A142_3 ((rd_T86 l0 x9_1).f3).length c142_3)) (fun _ hk => hk.2) (.slice A142_4 ((rd_T86 l0 x9_1).f4).length c142_4)) (fun _ h_ => h_.1))) hb); have n1_ := Aside0.mk (blk_below (g := gb143) (o := .cells #[.int .i64 ((rd_T86 l0 x9_1).f0), .int .i64 ((rd_T86 l0 x9_1).f1), .string ((rd_T86 l0 x9_1).f2), .slice A142_3 ((rd_T86 l0 x9_1).f3).length c142_3, .slice A142_4 ((rd_T86 l0 x9_1).f4).length c142_4] 86 (0, 0)) (by (with_reducible repeat (first | refine blk_drewN ?_ _ | refine blk_drew ?_ | refine blk_alloc ?_ _)); refine blk_put (cs := #[.int .i64 ((rd_T86 l0 x9_1).f0), .int .i64 ((rd_T86 l0 x9_1).f1), .string ((rd_T86 l0 x9_1).f2), .slice A142_3 ((rd_T86 l0 x9_1).f3).length c142_3, .slice none 0 0]) ?_ 4 _ rfl; (with_reducible repeat (first | refine blk_drewN ?_ _ | refine blk_drew ?_ | refine blk_alloc ?_ _)); refine blk_put (cs := #[.int .i64 ((rd_T86 l0 x9_1).f0), .int .i64 ((rd_T86 l0 x9_1).f1), .string ((rd_T86 l0 x9_1).f2), .slice none 0 0, .slice none 0 0]) ?_ 3 _ rfl; (with_reducible repeat (first | refine blk_drewN ?_ _ | refine blk_drew ?_ | refine blk_alloc ?_ _)); refine blk_put (cs := #[.int .i64 ((rd_T86 l0 x9_1).f0), .int .i64 ((rd_T86 l0 x9_1).f1), .string (⟨#[]⟩ : ByteArray), .slice none 0 0, .slice none 0 0]) ?_ 2 _ rfl; (with_reducible repeat (first | refine blk_drewN ?_ _ | refine blk_drew ?_ | refine blk_alloc ?_ _)); refine blk_put (cs := #[.int .i64 ((rd_T86 l0 x9_1).f0), .int .i64 0, .string (⟨#[]⟩ : ByteArray), .slice none 0 0, .slice none 0 0]) ?_ 1 _ rfl; (with_reducible repeat (first | refine blk_drewN ?_ _ | refine blk_drew ?_ | refine blk_alloc ?_ _)); refine blk_put (cs := #[.int .i64 0, .int .i64 0, .string (⟨#[]⟩ : ByteArray), .slice none 0 0, .slice none 0 0]) ?_ 0 _ rfl; (with_reducible repeat (first | refine blk_drewN ?_ _ | refine blk_drew ?_ | refine blk_alloc ?_ _)); exact BK143.out) hb); have n2_ := Aside0.mk (below_step (by repeat (first | (with_reducible first | exact HB.out | apply below_alloc | apply pw_below_drewN | apply below_drew1 | refine below_set ?_ GE143.out) | exact HB.out)) hb); clear HO_3; clear BK143; clear HB; have HO_3 := n0_; have BK143 := n1_; have HB := n2_; clear n0_ n1_ n2_; (try clear hb); (try clear hb2); (try clear hk); (try clear hi)) | ((with_reducible refine gate_builtin (b := .append) (xs := #[.tmp 13, .tmp 17]) rfl ?_); at_builtin; refine Kd.R_append Kd.string (w0 := w) w.heap.size rfl (.tmp 13) (.tmp 17) 35 9 (.string ⟨#[]⟩) 16 rfl Tryd.underlying35 info9 rfl (by decide) (by omega) u3 x3_1 t144 [.string t144] (fun _ => True) (fun _ => False) rfl rfl ?aP (fun _ hk => hk.elim) ?aF ?aO ?aB ?aS ?aL ?_; (case aP => exact rfl); (case aB => exact (by repeat (first | (with_reducible first | exact HB.out | apply below_alloc | apply pw_below_drewN | apply below_drew1 | refine below_set ?_ GE143.out) | exact HB.out))); (case aF => exact (fun _ _ => trivial)); (case aO => exact (by (with_reducible repeat (first | apply Kd.R_alloc | apply Kd.R_drewN | apply Kd.R_drew)); exact HO_3.out)); (case aS => exact (below_size (by repeat (first | (with_reducible first | exact HB.out | apply below_alloc | apply pw_below_drewN | apply below_drew1 | refine below_set ?_ GE143.out) | exact HB.out)))); (case aL => have := LMc8.out; omega); intro v146 w54 ho hb hg hat; rw [← Ny145.out] at ho; have n0_ := Aside0.mk (blk_grown (g := gb143) (o := .cells #[.int .i64 ((rd_T86 l0 x9_1).f0), .int .i64 ((rd_T86 l0 x9_1).f1), .string ((rd_T86 l0 x9_1).f2), .slice A142_3 ((rd_T86 l0 x9_1).f3).length c142_3, .slice A142_4 ((rd_T86 l0 x9_1).f4).length c142_4] 86 (0, 0)) (by (with_reducible repeat (first | refine blk_drewN ?_ _ | refine blk_drew ?_ | refine blk_alloc ?_ _)); exact BK143.out) hg (Kd.R_ne HO_3.out BK143.out (by decide))); have n1_ := Aside0.mk (hb); have n2_ := Aside0.mk (ho); clear BK143; clear HB; clear HO_3; have BK143 := n0_; have HB := n1_; have HO147 := n2_; clear n0_ n1_ n2_; clear ho hb hg hat; have hcz55_0 : w54.cell? ⟨gb143, 0, none⟩ = some (.int .i64 ((rd_T86 l0 x9_1).f0)) := (blk_cell BK143.out 0).trans rfl; have hcz55_1 : w54.cell? ⟨gb143, 1, none⟩ = some (.int .i64 ((rd_T86 l0 x9_1).f1)) := (blk_cell BK143.out 1).trans rfl; have hcz55_2 : w54.cell? ⟨gb143, 2, none⟩ = some (.string ((rd_T86 l0 x9_1).f2)) := (blk_cell BK143.out 2).trans rfl; have hcz55_3 : w54.cell? ⟨gb143, 3, none⟩ = some (.slice A142_3 ((rd_T86 l0 x9_1).f3).length c142_3) := (blk_cell BK143.out 3).trans rfl; have hcz55_4 : w54.cell? ⟨gb143, 4, none⟩ = some (.slice A142_4 ((rd_T86 l0 x9_1).f4).length c142_4) := (blk_cell BK143.out 4).trans rfl; have hfz55_0 := blk_frozen BK143.out 0; have hfz55_1 := blk_frozen BK143.out 1; have hfz55_2 := blk_frozen BK143.out 2; have hfz55_3 := blk_frozen BK143.out 3; have hfz55_4 := blk_frozen BK143.out 4) | ((with_reducible refine gate_builtin (b := .append) (xs := #[.tmp 21, .tmp 24]) rfl ?_); at_builtin; refine Kd.R_append Kd.string (w0 := w) w.heap.size rfl (.tmp 21) (.tmp 24) 35 9 (.string ⟨#[]⟩) 16 rfl Tryd.underlying35 info9 rfl (by decide) (by omega) v146 y145 ((rd_T86 l0 x9_1).f2) [.string ((rd_T86 l0 x9_1).f2)] (fun _ => True) (fun _ => False) rfl rfl ?aP (fun _ hk => hk.elim) ?aF ?aO ?aB ?aS ?aL ?_; (case aP => exact rfl); (case aB => exact (by repeat (first | (with_reducible first | exact HB.out | apply below_alloc | apply pw_below_drewN | apply below_drew1 | refine below_set ?_ GE143.out) | exact HB.out))); (case aF => exact (fun _ _ => trivial)); (case aO => exact (by (with_reducible repeat (first | apply Kd.R_alloc | apply Kd.R_drewN | apply Kd.R_drew)); exact HO147.out)); (case aS => exact (below_size (by repeat (first | (with_reducible first | exact HB.out | apply below_alloc | apply pw_below_drewN | apply below_drew1 | refine below_set ?_ GE143.out) | exact HB.out)))); (case aL => have := LMc50.out; omega); intro v170 w56 ho hb hg hat; rw [← Ny169.out] at ho; have n0_ := Aside0.mk (blk_grown (g := gb143) (o := .cells #[.int .i64 ((rd_T86 l0 x9_1).f0), .int .i64 ((rd_T86 l0 x9_1).f1), .string ((rd_T86 l0 x9_1).f2), .slice A142_3 ((rd_T86 l0 x9_1).f3).length c142_3, .slice A142_4 ((rd_T86 l0 x9_1).f4).length c142_4] 86 (0, 0)) (by (with_reducible repeat (first | refine blk_drewN ?_ _ | refine blk_drew ?_ | refine blk_alloc ?_ _)); exact BK143.out) hg (Kd.R_ne HO147.out BK143.out (by decide))); have n1_ := Aside0.mk (hb); have n2_ := Aside0.mk (ho); clear BK143; clear HB; clear HO147; have BK143 := n0_; have HB := n1_; have HO171 := n2_; clear n0_ n1_ n2_; clear ho hb hg hat))
                    go_roundg k1
                    case measure => have := HK1.out; omega
                    case rel => exact ⟨(y169), (wrap64 (x9_1 + 1)), (by first | rfl | (simp; done) | (simp [*]; done)), H', ⟨by have := HK1.out; omega⟩, ⟨by (with_reducible repeat (first | apply Kd.R_alloc | apply Kd.R_drewN | apply Kd.R_drew)); exact HO171.out⟩, ⟨by repeat (first | (with_reducible first | exact HB.out | apply below_alloc | apply pw_below_drewN | apply below_drew1 | refine below_set ?_ GE143.out) | exact HB.out)⟩⟩
                  · rw [if_neg c50] at H
                    exact absurd H (by simp)
            · rw [if_neg c8] at H
              exact absurd H (by simp)
          · rw [if_neg c6] at H
            exact absurd H (by simp)
        · rw [if_neg c5] at H
          exact absurd H (by simp)
      · rw [if_neg c4] at H
        have c4b0 : decide (x9_1 < (l0.length : Int)) = false := decide_eq_false c4
        clear c4
        by_cases c57 : x3_1.length < 8796093022208
        · rw [if_pos c57] at H
          have LMc57 := Aside0.mk c57
          clear c57
          obtain ⟨y139, hy139⟩ : ∃ y_ : List ByteArray, y_ = (x3_1 ++ [(⟨#[125]⟩ : ByteArray)]) := ⟨_, rfl⟩
          replace H : (some y139) = some r := by first | (rw [hy139]; with_reducible exact H) | (have H2_ := (Option.bind_some _ _).symm.trans H; rw [hy139]; with_reducible exact H2_) | (have H2_ := (Option.bind_some _ _).symm.trans H; with_reducible exact H2_) | with_reducible exact H | (rw [hy139]; exact H) | exact H
          have Ny139 := Aside0.mk hy139
          clear hy139
          obtain rfl := Option.some.inj H
          go_wp2_with (first | ((with_reducible refine gate_builtin (b := .append) (xs := #[.tmp 52, .tmp 53]) rfl ?_); at_builtin; refine Kd.R_append Kd.string (w0 := w) w.heap.size rfl (.tmp 52) (.tmp 53) 35 9 (.string ⟨#[]⟩) 16 rfl Tryd.underlying35 info9 rfl (by decide) (by omega) u3 x3_1 (⟨#[125]⟩ : ByteArray) [.string (⟨#[125]⟩ : ByteArray)] (fun _ => True) (fun _ => False) rfl rfl ?aP (fun _ hk => hk.elim) ?aF ?aO ?aB ?aS ?aL ?_; (case aP => exact rfl); (case aB => exact (by repeat (first | (with_reducible first | exact HB.out | apply below_alloc | apply pw_below_drewN | apply below_drew1) | exact HB.out))); (case aF => exact (fun _ _ => trivial)); (case aO => exact (by (with_reducible repeat (first | apply Kd.R_alloc | apply Kd.R_drewN | apply Kd.R_drew)); exact HO_3.out)); (case aS => exact (below_size (by repeat (first | (with_reducible first | exact HB.out | apply below_alloc | apply pw_below_drewN | apply below_drew1) | exact HB.out)))); (case aL => have := LMc57.out; omega); intro v140 w58 ho hb hg hat; rw [← Ny139.out] at ho; have n0_ := Aside0.mk (hb); have n1_ := Aside0.mk (ho); clear HB; clear HO_3; have HB := n0_; have HO141 := n1_; clear n0_ n1_; clear ho hb hg hat))
          go_ret
          exact ⟨_, by first | rfl | (simp [errW_none, errW_some] <;> rfl) | (simp [*, errW_none, errW_some] <;> rfl), by (with_reducible repeat (first | apply Kd.R_alloc | apply Kd.R_drewN | apply Kd.R_drew)); exact HO141.out, by repeat (first | (with_reducible first | exact HB.out | apply below_alloc | apply pw_below_drewN | apply below_drew1) | exact HB.out)⟩
        · rw [if_neg c57] at H
          exact absurd H (by simp)

/-! ### parse_Body: function 24 -/
def parse_Body.f (k : Nat) (a0_0 : ByteArray) (a0_1 : Int) (l0_2 : List (S86)) : Option (ByteArray) := (parse_words.f k l0_2).bind fun t173 => ((strings_Join.f t173 (⟨#[32]⟩ : ByteArray)).bind fun t176 => (some t176))
theorem parse_Body.mono : ∀ a0 a1 a2 k, LeO (parse_Body.f k a0 a1 a2) (parse_Body.f (k + 1) a0 a1 a2) := by
  intro a0 a1 a2 k
  unfold parse_Body.f
  repeat' first
      | (with_reducible exact parse_words.mono _ _)
      | (with_reducible exact LeO.refl _)
      | (with_reducible exact LeO.none _)
      | (with_reducible refine LeO.ite ?_ ?_)
      | (with_reducible refine LeO.bind ?_ (fun _ => ?_))
      | exact parse_words.mono _ _
      | exact LeO.none _
      | refine LeO.ite ?_ ?_
      | refine LeO.bind ?_ (fun _ => ?_)
set_option maxHeartbeats 8000000 in
set_option maxRecDepth 100000 in
theorem parse_Body.calls (k : Nat) (a0_0 : ByteArray) (a0_1 : Int) (A0_2 : Option Addr) (c0_2 : Nat) (l0_2 : List (S86)) (r : ByteArray) (w : World) (hr0_2 : Kd.C k86 w A0_2 l0_2.length l0_2) (hc0_2 : l0_2.length ≤ c0_2) (h : parse_Body.f k a0_0 a0_1 l0_2 = some r) (hG : GL w) :
    Calls Tryd.prog 24 #[.agg #[.string a0_0, .int .i64 a0_1, .slice A0_2 l0_2.length c0_2]] w fun e w' => e = .returned (.string r) ∧ Below w.heap.size w w' := by
  have HG := Aside0.mk hG
  clear hG
  have hu46 := Tryd.underlying46
  have HR0_2 := Aside0.mk hr0_2
  have HC0_2 := Aside0.mk hc0_2
  clear hr0_2 hc0_2
  have HB := Aside0.mk (Below.refl w.heap.size w)
  have H : ((parse_words.f k l0_2).bind fun t173 => ((strings_Join.f t173 (⟨#[32]⟩ : ByteArray)).bind fun t176 => (some t176))) = some r := h
  clear h
  replace H := Option.bind_eq_some_iff.mp H
  obtain ⟨t173, A20, H⟩ := H
  replace H : ((strings_Join.f t173 (⟨#[32]⟩ : ByteArray)).bind fun t176 => (some t176)) = some r := H
  have A2 := Aside0.mk A20
  clear A20
  replace H := Option.bind_eq_some_iff.mp H
  obtain ⟨t176, A30, H⟩ := H
  replace H : (some t176) = some r := H
  have A3 := Aside0.mk A30
  clear A30
  obtain rfl := Option.some.inj H
  go_enter Tryd.func24, Tryd.ntmps24
  go_wp2_with (first | ((with_reducible refine gate_dst (N := 1) rfl ?_); refine box_event ?hg (N := 1) ?hd (cs := #[.string a0_0, .int .i64 a0_1, .slice A0_2 l0_2.length c0_2]) (t := 46) ?hr ?_; (case hd => rfl); (case hg => rfl); (case hr => first | (go_simp; done) | (go_simp; rfl)); intro gb172 hg w4 hbox hb; have n0_ := Aside0.mk (below_step (by repeat (first | (with_reducible first | exact HB.out | apply below_alloc | apply pw_below_drewN | apply below_drew1) | exact HB.out)) hb); have n1_ := Aside0.mk (hbox); have n2_ := Aside0.mk ((by rw [hg]; exact (below_size (by repeat (first | (with_reducible first | exact HB.out | apply below_alloc | apply pw_below_drewN | apply below_drew1) | exact HB.out))) : w.heap.size ≤ gb172)); have n3_ := Aside0.mk ((by rw [hg]; exact (below_size (by repeat (first | (with_reducible first | exact HB.out | apply below_alloc | apply pw_below_drewN | apply below_drew1) | exact HB.out))) : w.heap.size ≤ gb172)); clear HB; have HB := n0_; have BK172 := n1_; have GW172 := n2_; have GE172 := n3_; clear n0_ n1_ n2_ n3_; clear hb hbox hg; have hcz5_0 : w4.cell? ⟨gb172, 0, none⟩ = some (.string a0_0) := (blk_cell BK172.out 0).trans rfl; have hcz5_1 : w4.cell? ⟨gb172, 1, none⟩ = some (.int .i64 a0_1) := (blk_cell BK172.out 1).trans rfl; have hcz5_2 : w4.cell? ⟨gb172, 2, none⟩ = some (.slice A0_2 l0_2.length c0_2) := (blk_cell BK172.out 2).trans rfl; have hfz5_0 := blk_frozen BK172.out 0; have hfz5_1 := blk_frozen BK172.out 1; have hfz5_2 := blk_frozen BK172.out 2) | ((with_reducible refine gate_callee (f := 49) rfl ?_); refine goesL_ (some 5) rfl rfl Tryd.func49 (by kernel_rfl) rfl #[.slice A0_2 l0_2.length c0_2] rfl (by (try simp only [List.map_toArray, List.map_cons, List.map_nil]); first | done | rfl | (simp only [List.length_drop, List.length_take]; rfl)) ?_; (with_reducible refine (parse_words.calls k _ _ l0_2 t173 _ ?side1 ?side2 A2.out (by first | exact HG.out | exact GL.drewN HG.out _ | exact GL.drewN (GL.drewN HG.out _) _ | exact GL.of_below HG.out (by repeat (first | (with_reducible first | exact HB.out | apply below_alloc | apply pw_below_drewN | apply below_drew1 | refine below_set ?_ GE172.out) | exact HB.out)))).mono ?_); (case side1 => repeat (first | exact (Kd.C_below HR0_2.out HB.out) | (with_reducible refine Kd.C_alloc ?_ _) | (with_reducible refine Kd.C_drewN ?_ _) | (with_reducible refine Kd.C_drew ?_))); (case side2 => exact HC0_2.out); rintro e w6 ⟨v174, rfl, ho0, hb⟩; refine ⟨_, rfl, ?_⟩; have n0_ := Aside0.mk (Kd.R_lower ho0 (below_size (by repeat (first | (with_reducible first | exact HB.out | apply below_alloc | apply pw_below_drewN | apply below_drew1 | refine below_set ?_ GE172.out) | exact HB.out)))); have n1_ := Aside0.mk (blk_below (g := gb172) (o := .cells #[.string a0_0, .int .i64 a0_1, .slice A0_2 l0_2.length c0_2] 46 (0, 0)) (by (with_reducible repeat (first | refine blk_drewN ?_ _ | refine blk_drew ?_ | refine blk_alloc ?_ _)); exact BK172.out) hb); have n2_ := Aside0.mk (below_step (by repeat (first | (with_reducible first | exact HB.out | apply below_alloc | apply pw_below_drewN | apply below_drew1 | refine below_set ?_ GE172.out) | exact HB.out)) hb); clear BK172; clear HB; have HO175 := n0_; have BK172 := n1_; have HB := n2_; clear n0_ n1_ n2_; (try clear hb); (try clear hb2); (try clear hk); (try clear hi); (try clear ho0); obtain ⟨Ao7, co7, eo7⟩ := Kd.R_slice HO175.out; subst eo7) | ((with_reducible refine gate_callee (f := 47) rfl ?_); refine goesL_ (some 6) rfl rfl Tryd.func47 (by kernel_rfl) rfl #[.slice Ao7 t173.length co7, .string (⟨#[32]⟩ : ByteArray)] rfl (by (try simp only [List.map_toArray, List.map_cons, List.map_nil]); first | done | rfl | (simp only [List.length_drop, List.length_take]; rfl)) ?_; (with_reducible refine (strings_Join.calls _ _ t173 (⟨#[32]⟩ : ByteArray) t176 _ ?side1 ?side2 A3.out).mono ?_); (case side1 => repeat (first | exact (Kd.R_reads' HO175.out).2.2 | (with_reducible refine Kd.C_alloc ?_ _) | (with_reducible refine Kd.C_drewN ?_ _) | (with_reducible refine Kd.C_drew ?_))); (case side2 => exact (Kd.R_reads' HO175.out).2.1); rintro e w8 ⟨rfl, hb⟩; refine ⟨_, rfl, ?_⟩; have n0_ := Aside0.mk (Kd.R_below (by (with_reducible repeat (first | apply Kd.R_alloc | apply Kd.R_drewN | apply Kd.R_drew)); exact HO175.out) hb); have n1_ := Aside0.mk (blk_below (g := gb172) (o := .cells #[.string a0_0, .int .i64 a0_1, .slice A0_2 l0_2.length c0_2] 46 (0, 0)) (by (with_reducible repeat (first | refine blk_drewN ?_ _ | refine blk_drew ?_ | refine blk_alloc ?_ _)); exact BK172.out) hb); have n2_ := Aside0.mk (below_step (by repeat (first | (with_reducible first | exact HB.out | apply below_alloc | apply pw_below_drewN | apply below_drew1 | refine below_set ?_ GE172.out) | exact HB.out)) hb); clear HO175; clear BK172; clear HB; have HO175 := n0_; have BK172 := n1_; have HB := n2_; clear n0_ n1_ n2_; (try clear hb); (try clear hb2); (try clear hk); (try clear hi)))
  go_ret
  exact ⟨by first | rfl | (simp [errW_none, errW_some] <;> rfl) | (simp [*, errW_none, errW_some] <;> rfl), by repeat (first | (with_reducible first | exact HB.out | apply below_alloc | apply pw_below_drewN | apply below_drew1 | refine below_set ?_ GE172.out) | exact HB.out)⟩

end Go.Proofs.YtkmafndljelopaaDoor.Q
