-- written by wip/xprint.py (over the kit's print.py) out of the translation. Not trusted: Lean checks it.
import Derived.Test.YtpnnojigdhkjaaaDoorQ0
import Derived.Test.YtpnnojigdhkjaaaDoorQ1
namespace Go.Proofs.YtpnnojigdhkjaaaDoor.Q
open Go.RowKit Go.Proofs.YtpnnojigdhkjaaaDoorW.PrintWords Go.Proofs.YtpnnojigdhkjaaaDoorW.PrintLast Go.Proofs.YtpnnojigdhkjaaaDoorW.PrintMore
attribute [local go_sem] max2_int min2_int max_two min_two max_three min_three max_four min_four   -- for this text's walks alone
set_option linter.unusedVariables false
set_option linter.unusedSimpArgs false

/-! ### deadboltref15_Bytes: function 14 -/
def deadboltref15_Bytes.l0 : Nat → List Int → Int → Int → Option (List Int)
  | 0, _, _, _ => none
  | k + 1, x3, x4, x5 => if x5 < 4 then (if 0 ≤ (IntKind.u64.wrap (wrap64 (8 * x5))) then (if x3.length < 140737488355328 then (deadboltref15_Bytes.l0 k (x3 ++ [(shr .u32 x4 (IntKind.u64.wrap (wrap64 (8 * x5)))) % 256]) x4 (wrap64 (x5 + 1))) else (none)) else (none)) else (some x3)
def deadboltref15_Bytes.f (k : Nat) (a0_0 : Int) (a0_1 : ByteArray) (a0_2 : ByteArray) : Option (List Int) := (some (([(a0_0) % 256, ((a0_1.size : Int)) % 256] : List Int) : List Int)).bind fun y138 => (if y138.length + a0_1.size < 140737488355328 then ((some (y138 ++ bytesOf a0_1 : List Int)).bind fun y141 => ((some (([((a0_2.size : Int)) % 256, ((a0_2.size : Int) / 256) % 256] : List Int) : List Int)).bind fun y144 => (if y141.length + y144.length < 140737488355328 then ((some (y141 ++ y144 : List Int)).bind fun y147 => (if y147.length + a0_2.size < 140737488355328 then ((some (y147 ++ bytesOf a0_2 : List Int)).bind fun y150 => ((deadboltref2_Crc.f k y150).bind fun t153 => (deadboltref15_Bytes.l0 k y150 t153 0))) else (none))) else (none)))) else (none))
theorem deadboltref15_Bytes.mono_l : ∀ k, (∀ y0 y1 y2, LeO (deadboltref15_Bytes.l0 k y0 y1 y2) (deadboltref15_Bytes.l0 (k + 1) y0 y1 y2))
  | 0 => fun _ _ _ r h => by simp [deadboltref15_Bytes.l0] at h
  | k + 1 => by
    have ih0 := deadboltref15_Bytes.mono_l k
    · intro y0 y1 y2
      unfold deadboltref15_Bytes.l0
      repeat' first
      | (with_reducible exact ih0 _ _ _)
      | (with_reducible exact deadboltref2_Crc.mono _ _)
      | (with_reducible exact LeO.refl _)
      | (with_reducible exact LeO.none _)
      | (with_reducible refine LeO.ite ?_ ?_)
      | (with_reducible refine LeO.bind ?_ (fun _ => ?_))
      | exact ih0 _ _ _
      | exact deadboltref2_Crc.mono _ _
      | exact LeO.none _
      | refine LeO.ite ?_ ?_
      | refine LeO.bind ?_ (fun _ => ?_)
theorem deadboltref15_Bytes.mono : ∀ a0 a1 a2 k, LeO (deadboltref15_Bytes.f k a0 a1 a2) (deadboltref15_Bytes.f (k + 1) a0 a1 a2) := by
  intro a0 a1 a2 k
  have ih0 := deadboltref15_Bytes.mono_l k
  unfold deadboltref15_Bytes.f
  repeat' first
      | (with_reducible exact ih0 _ _ _)
      | (with_reducible exact deadboltref2_Crc.mono _ _)
      | (with_reducible exact LeO.refl _)
      | (with_reducible exact LeO.none _)
      | (with_reducible refine LeO.ite ?_ ?_)
      | (with_reducible refine LeO.bind ?_ (fun _ => ?_))
      | exact ih0 _ _ _
      | exact deadboltref2_Crc.mono _ _
      | exact LeO.none _
      | refine LeO.ite ?_ ?_
      | refine LeO.bind ?_ (fun _ => ?_)
def deadboltref15_Bytes.T2 : Bool × List (List Nat × List Nat) := (true, [([], []), ([], []), ([1], [1]), ([2], [2]), ([3], [3]), ([], []), ([5], [5]), ([6], [6]), ([7], [7]), ([8], [8]), ([4, 9], [4, 9]), ([0, 10], [0, 10]), ([], []), ([12], [12]), ([11, 13, 11], [11, 13]), ([14, 14, 0, 1, 2, 3, 4, 5, 6, 7, 8, 9, 10, 11, 12, 13, 14], [0, 14])])
def deadboltref15_Bytes.B2 : List Nat := [0, 0, 2, 6, 14, 0, 32, 96, 224, 480, 1022, 2047, 0, 4096, 16383, 32767]
theorem deadboltref15_Bytes.tab2 : rtab .any (opsOf Tryd.f14 2) = deadboltref15_Bytes.T2 := by kernel_rfl
theorem deadboltref15_Bytes.bits2 : waitsOk deadboltref15_Bytes.T2.2 deadboltref15_Bytes.B2 = true := by kernel_rfl
set_option maxHeartbeats 8000000 in
set_option maxRecDepth 100000 in
theorem deadboltref15_Bytes.calls (k : Nat) (a0_0 : Int) (a0_1 : ByteArray) (a0_2 : ByteArray) (r : List Int) (w : World) (h : deadboltref15_Bytes.f k a0_0 a0_1 a0_2 = some r) :
    Calls Tryd.prog 14 #[.agg #[.int .i64 a0_0, .string a0_1, .string a0_2]] w fun e w' => ∃ v0_ : Value, e = .returned (v0_) ∧ Kd.R (Kd.int .u8) 5 w' w.heap.size (fun _ => True) v0_ r ∧ Below w.heap.size w w' := by
  have hu25 := Tryd.underlying25
  have HB := Aside0.mk (Below.refl w.heap.size w)
  have H : ((some (([(a0_0) % 256, ((a0_1.size : Int)) % 256] : List Int) : List Int)).bind fun y138 => (if y138.length + a0_1.size < 140737488355328 then ((some (y138 ++ bytesOf a0_1 : List Int)).bind fun y141 => ((some (([((a0_2.size : Int)) % 256, ((a0_2.size : Int) / 256) % 256] : List Int) : List Int)).bind fun y144 => (if y141.length + y144.length < 140737488355328 then ((some (y141 ++ y144 : List Int)).bind fun y147 => (if y147.length + a0_2.size < 140737488355328 then ((some (y147 ++ bytesOf a0_2 : List Int)).bind fun y150 => ((deadboltref2_Crc.f k y150).bind fun t153 => (deadboltref15_Bytes.l0 k y150 t153 0))) else (none))) else (none)))) else (none))) = some r := h
  clear h
  obtain ⟨y138, hy138⟩ : ∃ y_ : List Int, y_ = (([(a0_0) % 256, ((a0_1.size : Int)) % 256] : List Int)) := ⟨_, rfl⟩
  replace H : (if y138.length + a0_1.size < 140737488355328 then ((some (y138 ++ bytesOf a0_1 : List Int)).bind fun y141 => ((some (([((a0_2.size : Int)) % 256, ((a0_2.size : Int) / 256) % 256] : List Int) : List Int)).bind fun y144 => (if y141.length + y144.length < 140737488355328 then ((some (y141 ++ y144 : List Int)).bind fun y147 => (if y147.length + a0_2.size < 140737488355328 then ((some (y147 ++ bytesOf a0_2 : List Int)).bind fun y150 => ((deadboltref2_Crc.f k y150).bind fun t153 => (deadboltref15_Bytes.l0 k y150 t153 0))) else (none))) else (none)))) else (none)) = some r := by first | (rw [hy138]; with_reducible exact H) | (have H2_ := (Option.bind_some _ _).symm.trans H; rw [hy138]; with_reducible exact H2_) | (have H2_ := (Option.bind_some _ _).symm.trans H; with_reducible exact H2_) | with_reducible exact H | (rw [hy138]; exact H) | exact H
  have Ny138 := Aside0.mk hy138
  clear hy138
  by_cases c2 : y138.length + a0_1.size < 140737488355328
  · rw [if_pos c2] at H
    have LMc2 := Aside0.mk c2
    clear c2
    obtain ⟨y141, hy141⟩ : ∃ y_ : List Int, y_ = (y138 ++ bytesOf a0_1) := ⟨_, rfl⟩
    replace H : ((some (([((a0_2.size : Int)) % 256, ((a0_2.size : Int) / 256) % 256] : List Int) : List Int)).bind fun y144 => (if y141.length + y144.length < 140737488355328 then ((some (y141 ++ y144 : List Int)).bind fun y147 => (if y147.length + a0_2.size < 140737488355328 then ((some (y147 ++ bytesOf a0_2 : List Int)).bind fun y150 => ((deadboltref2_Crc.f k y150).bind fun t153 => (deadboltref15_Bytes.l0 k y150 t153 0))) else (none))) else (none))) = some r := by first | (rw [hy141]; with_reducible exact H) | (have H2_ := (Option.bind_some _ _).symm.trans H; rw [hy141]; with_reducible exact H2_) | (have H2_ := (Option.bind_some _ _).symm.trans H; with_reducible exact H2_) | with_reducible exact H | (rw [hy141]; exact H) | exact H
    have Ny141 := Aside0.mk hy141
    clear hy141
    obtain ⟨y144, hy144⟩ : ∃ y_ : List Int, y_ = (([((a0_2.size : Int)) % 256, ((a0_2.size : Int) / 256) % 256] : List Int)) := ⟨_, rfl⟩
    replace H : (if y141.length + y144.length < 140737488355328 then ((some (y141 ++ y144 : List Int)).bind fun y147 => (if y147.length + a0_2.size < 140737488355328 then ((some (y147 ++ bytesOf a0_2 : List Int)).bind fun y150 => ((deadboltref2_Crc.f k y150).bind fun t153 => (deadboltref15_Bytes.l0 k y150 t153 0))) else (none))) else (none)) = some r := by first | (rw [hy144]; with_reducible exact H) | (have H2_ := (Option.bind_some _ _).symm.trans H; rw [hy144]; with_reducible exact H2_) | (have H2_ := (Option.bind_some _ _).symm.trans H; with_reducible exact H2_) | with_reducible exact H | (rw [hy144]; exact H) | exact H
    have Ny144 := Aside0.mk hy144
    clear hy144
    by_cases c3 : y141.length + y144.length < 140737488355328
    · rw [if_pos c3] at H
      have LMc3 := Aside0.mk c3
      clear c3
      obtain ⟨y147, hy147⟩ : ∃ y_ : List Int, y_ = (y141 ++ y144) := ⟨_, rfl⟩
      replace H : (if y147.length + a0_2.size < 140737488355328 then ((some (y147 ++ bytesOf a0_2 : List Int)).bind fun y150 => ((deadboltref2_Crc.f k y150).bind fun t153 => (deadboltref15_Bytes.l0 k y150 t153 0))) else (none)) = some r := by first | (rw [hy147]; with_reducible exact H) | (have H2_ := (Option.bind_some _ _).symm.trans H; rw [hy147]; with_reducible exact H2_) | (have H2_ := (Option.bind_some _ _).symm.trans H; with_reducible exact H2_) | with_reducible exact H | (rw [hy147]; exact H) | exact H
      have Ny147 := Aside0.mk hy147
      clear hy147
      by_cases c4 : y147.length + a0_2.size < 140737488355328
      · rw [if_pos c4] at H
        have LMc4 := Aside0.mk c4
        clear c4
        obtain ⟨y150, hy150⟩ : ∃ y_ : List Int, y_ = (y147 ++ bytesOf a0_2) := ⟨_, rfl⟩
        replace H : ((deadboltref2_Crc.f k y150).bind fun t153 => (deadboltref15_Bytes.l0 k y150 t153 0)) = some r := by first | (rw [hy150]; with_reducible exact H) | (have H2_ := (Option.bind_some _ _).symm.trans H; rw [hy150]; with_reducible exact H2_) | (have H2_ := (Option.bind_some _ _).symm.trans H; with_reducible exact H2_) | with_reducible exact H | (rw [hy150]; exact H) | exact H
        have Ny150 := Aside0.mk hy150
        clear hy150
        replace H := Option.bind_eq_some_iff.mp H
        obtain ⟨t153, A50, H⟩ := H
        replace H : (deadboltref15_Bytes.l0 k y150 t153 0) = some r := H
        have A5 := Aside0.mk A50
        clear A50
        have H' := Aside0.mk H
        clear H
        go_enter Tryd.func14, Tryd.ntmps14
        try go_wp2_with (first | ((with_reducible refine gate_dst (N := 1) rfl ?_); refine box_event ?hg (N := 1) ?hd (cs := #[.int .i64 a0_0, .string a0_1, .string a0_2]) (t := 25) ?hr ?_; (case hd => rfl); (case hg => rfl); (case hr => first | (go_simp; done) | (go_simp; rfl)); intro gb137 hg w6 hbox hb; have n0_ := Aside0.mk (below_step (by repeat (first | (with_reducible first | exact HB.out | apply below_alloc | apply pw_below_drewN | apply below_drew1) | exact HB.out)) hb); have n1_ := Aside0.mk (hbox); have n2_ := Aside0.mk ((by rw [hg]; exact (below_size (by repeat (first | (with_reducible first | exact HB.out | apply below_alloc | apply pw_below_drewN | apply below_drew1) | exact HB.out))) : w.heap.size ≤ gb137)); have n3_ := Aside0.mk ((by rw [hg]; exact (below_size (by repeat (first | (with_reducible first | exact HB.out | apply below_alloc | apply pw_below_drewN | apply below_drew1) | exact HB.out))) : w.heap.size ≤ gb137)); clear HB; have HB := n0_; have BK137 := n1_; have GW137 := n2_; have GE137 := n3_; clear n0_ n1_ n2_ n3_; clear hb hbox hg; have hcz7_0 : w6.cell? ⟨gb137, 0, none⟩ = some (.int .i64 a0_0) := (blk_cell BK137.out 0).trans rfl; have hcz7_1 : w6.cell? ⟨gb137, 1, none⟩ = some (.string a0_1) := (blk_cell BK137.out 1).trans rfl; have hcz7_2 : w6.cell? ⟨gb137, 2, none⟩ = some (.string a0_2) := (blk_cell BK137.out 2).trans rfl; have hfz7_0 := blk_frozen BK137.out 0; have hfz7_1 := blk_frozen BK137.out 1; have hfz7_2 := blk_frozen BK137.out 2) | ((with_reducible refine gate_dst (N := 13) rfl ?_); refine Kd.R_lit (Kd.int .u8) _ 5 ?hg (N := 13) ?hd (xs := ([(a0_0) % 256, ((a0_1.size : Int)) % 256] : List Int)) (inner := [.int .u8 ((a0_0) % 256), .int .u8 (((a0_1.size : Int)) % 256)]) (ok := fun _ => True) (okp := fun _ => True) ?hr ?hp (fun _ hk => hk) trivial (Below.refl _ _) (Nat.le_refl _) (by simp) ?_; (case hd => rfl); (case hg => rfl); (case hr => first | (go_simp; done) | (go_simp; rfl)); (case hp => exact (Reps.one (show Kd.M (Kd.int .u8) _ _ _ ((a0_0) % 256) [.int .u8 ((a0_0) % 256)] from rfl) (Reps.one (show Kd.M (Kd.int .u8) _ _ _ (((a0_1.size : Int)) % 256) [.int .u8 (((a0_1.size : Int)) % 256)] from rfl) (Reps.none _ _)))); intro v139 w8 ho9 hb hg_ hnew_; clear hg_ hnew_; (first | rw [← Ny138.out] at ho9 | (simp only [Int.reduceToNat] at ho9; rw [← Ny138.out] at ho9)); have n0_ := Aside0.mk (Kd.R_lower ho9 (below_size (by repeat (first | (with_reducible first | exact HB.out | apply below_alloc | apply pw_below_drewN | apply below_drew1 | refine below_set ?_ GE137.out) | exact HB.out)))); have n1_ := Aside0.mk (blk_below (g := gb137) (o := .cells #[.int .i64 a0_0, .string a0_1, .string a0_2] 25 (0, 0)) (by (with_reducible repeat (first | refine blk_drewN ?_ _ | refine blk_drew ?_ | refine blk_alloc ?_ _)); exact BK137.out) hb); have n2_ := Aside0.mk (below_step (by repeat (first | (with_reducible first | exact HB.out | apply below_alloc | apply pw_below_drewN | apply below_drew1 | refine below_set ?_ GE137.out) | exact HB.out)) hb); clear BK137; clear HB; have HO140 := n0_; have BK137 := n1_; have HB := n2_; clear n0_ n1_ n2_; clear hb ho9; have hcz10_0 : w8.cell? ⟨gb137, 0, none⟩ = some (.int .i64 a0_0) := (blk_cell BK137.out 0).trans rfl; have hcz10_1 : w8.cell? ⟨gb137, 1, none⟩ = some (.string a0_1) := (blk_cell BK137.out 1).trans rfl; have hcz10_2 : w8.cell? ⟨gb137, 2, none⟩ = some (.string a0_2) := (blk_cell BK137.out 2).trans rfl; have hfz10_0 := blk_frozen BK137.out 0; have hfz10_1 := blk_frozen BK137.out 1; have hfz10_2 := blk_frozen BK137.out 2) | (at_builtin; refine print_append_str (w0 := w) w.heap.size rfl (.tmp 13) _ 28 9 5 rfl Tryd.underlying28 Tryd.underlying9 info5 v139 y138 a0_1 rfl rfl ?aO ?aB ?aS ?aL ?_; (case aB => exact (by repeat (first | (with_reducible first | exact HB.out | apply below_alloc | apply pw_below_drewN | apply below_drew1 | refine below_set ?_ GE137.out) | exact HB.out))); (case aO => exact (Kd.own_of_R (by (with_reducible repeat (first | apply Kd.R_alloc | apply Kd.R_drewN | apply Kd.R_drew)); exact HO140.out))); (case aS => exact (below_size (by repeat (first | (with_reducible first | exact HB.out | apply below_alloc | apply pw_below_drewN | apply below_drew1 | refine below_set ?_ GE137.out) | exact HB.out)))); (case aL => have := LMc2.out; omega); intro v142 w11 ho0 hb hg; have ho := Kd.R_of_own (h1 := fun _ => rfl) (ok := fun _ => True) ho0 (fun _ _ => trivial); clear ho0; have hat := True.intro; rw [← Ny141.out] at ho; change Kd.R (Kd.int .u8) 5 w11 w.heap.size (fun _ => True) v142 y141 at ho; have n0_ := Aside0.mk (blk_grown (g := gb137) (o := .cells #[.int .i64 a0_0, .string a0_1, .string a0_2] 25 (0, 0)) (by (with_reducible repeat (first | refine blk_drewN ?_ _ | refine blk_drew ?_ | refine blk_alloc ?_ _)); exact BK137.out) hg (Kd.R_ne HO140.out BK137.out (by decide))); have n1_ := Aside0.mk (hb); have n2_ := Aside0.mk (ho); clear BK137; clear HB; clear HO140; have BK137 := n0_; have HB := n1_; have HO143 := n2_; clear n0_ n1_ n2_; clear ho hb hg hat))
        have n0_ := Aside0.mk (Kd.R_drew HO143.out)
        have n1_ := Aside0.mk (blk_drew BK137.out)
        have n2_ := Aside0.mk (below_drew1 HB.out)
        clear HO143
        clear BK137
        clear HB
        have HO143 := n0_
        have BK137 := n1_
        have HB := n2_
        clear n0_ n1_ n2_
        refine start_ (n := 16) (S := fun w' => w'.cell? ⟨gb137, 0, none⟩ = some (.int .i64 a0_0) ∧ w'.cell? ⟨gb137, 1, none⟩ = some (.string a0_1) ∧ w'.cell? ⟨gb137, 2, none⟩ = some (.string a0_2)) (ds := []) #[false, false, false, false, false, false, false, false, false, false, false, false, false, false, false, false] (by kernel_rfl) rfl rfl ⟨(blk_cell BK137.out 0).trans rfl, (blk_cell BK137.out 1).trans rfl, (blk_cell BK137.out 2).trans rfl⟩ (fun hHeld => ?_); refine with_tabW deadboltref15_Bytes.tab2 deadboltref15_Bytes.bits2 (fun HT_ HW_ => ?_)
        generalize w11.drew = w12 at HO143 BK137 HB hHeld ⊢
        refine pure_ (i := 0) (N := some 17) (v := ?_) (a' := ?_) #[true, false, false, false, false, false, false, false, false, false, false, false, false, false, false, false] rfl rfl (any_of HT_.out (by kernel_rfl)) (fun _ _ _ h => h) (Or.inl ⟨by rfl, ?_⟩) ?_ ?_
        rotate_left
        · intro w'
          go_simp
          with_reducible rfl
        rotate_left
        · simp only [Act.put, List.setIfInBounds_toArray, List.set_cons_zero, List.set_cons_succ, i64_w, i32_w]
          rfl
        refine pure_ (i := 1) (N := some 18) (v := ?_) (a' := ?_) #[true, true, false, false, false, false, false, false, false, false, false, false, false, false, false, false] rfl rfl (any_of HT_.out (by kernel_rfl)) (fun _ _ _ h => h) (Or.inl ⟨by rfl, ?_⟩) ?_ ?_
        rotate_left
        · intro w'
          go_simp
          with_reducible rfl
        rotate_left
        · simp only [Act.put, List.setIfInBounds_toArray, List.set_cons_zero, List.set_cons_succ, i64_w, i32_w]
          rfl
        refine pure_ (i := 5) (N := some 22) (v := ?_) (a' := ?_) #[true, true, false, false, false, true, false, false, false, false, false, false, false, false, false, false] rfl rfl (any_of HT_.out (by kernel_rfl)) (fun _ _ _ h => h) (Or.inl ⟨by rfl, ?_⟩) ?_ ?_
        rotate_left
        · intro w'
          go_simp
          with_reducible rfl
        rotate_left
        · simp only [Act.put, List.setIfInBounds_toArray, List.set_cons_zero, List.set_cons_succ, i64_w, i32_w]
          rfl
        refine pure_ (i := 12) (N := some 29) (v := ?_) (a' := ?_) #[true, true, false, false, false, true, false, false, false, false, false, false, true, false, false, false] rfl rfl (any_of HT_.out (by kernel_rfl)) (fun _ _ _ h => h) (Or.inl ⟨by rfl, ?_⟩) ?_ ?_
        rotate_left
        · intro w'
          go_simp
          with_reducible rfl
        rotate_left
        · simp only [Act.put, List.setIfInBounds_toArray, List.set_cons_zero, List.set_cons_succ, i64_w, i32_w]
          rfl
        refine take_ (i := 2) (N := some 19) (v := ?_) (a' := ?_) #[true, true, true, false, false, true, false, false, false, false, false, false, true, false, false, false] rfl rfl (take_ofW HT_.out HW_.out (by kernel_rfl)) (fun _ _ _ h => h) (Or.inl ⟨by rfl, ?_⟩) hHeld ?_ ?_
        rotate_left
        · rintro w' ⟨s0, s1, s2⟩
          go_simp
          with_reducible rfl
        rotate_left
        · simp only [Act.put, List.setIfInBounds_toArray, List.set_cons_zero, List.set_cons_succ, i64_w, i32_w]
          rfl
        refine pure_ (i := 3) (N := some 20) (v := ?_) (a' := ?_) #[true, true, true, true, false, true, false, false, false, false, false, false, true, false, false, false] rfl rfl (any_of HT_.out (by kernel_rfl)) (fun _ _ _ h => h) (Or.inl ⟨by rfl, ?_⟩) ?_ ?_
        rotate_left
        · intro w'
          go_simp
          with_reducible rfl
        rotate_left
        · simp only [Act.put, List.setIfInBounds_toArray, List.set_cons_zero, List.set_cons_succ, i64_w, i32_w]
          rfl
        refine pure_ (i := 4) (N := some 21) (v := ?_) (a' := ?_) #[true, true, true, true, true, true, false, false, false, false, false, false, true, false, false, false] rfl rfl (any_of HT_.out (by kernel_rfl)) (fun _ _ _ h => h) (Or.inl ⟨by rfl, ?_⟩) ?_ ?_
        rotate_left
        · intro w'
          go_simp
          with_reducible rfl
        rotate_left
        · simp only [Act.put, List.setIfInBounds_toArray, List.set_cons_zero, List.set_cons_succ, i64_w, i32_w]
          rfl
        refine take_ (i := 6) (N := some 23) (v := ?_) (a' := ?_) #[true, true, true, true, true, true, true, false, false, false, false, false, true, false, false, false] rfl rfl (take_ofW HT_.out HW_.out (by kernel_rfl)) (fun _ _ _ h => h) (Or.inl ⟨by rfl, ?_⟩) hHeld ?_ ?_
        rotate_left
        · rintro w' ⟨s0, s1, s2⟩
          go_simp
          with_reducible rfl
        rotate_left
        · simp only [Act.put, List.setIfInBounds_toArray, List.set_cons_zero, List.set_cons_succ, i64_w, i32_w]
          rfl
        refine pure_ (i := 7) (N := some 24) (v := ?_) (a' := ?_) #[true, true, true, true, true, true, true, true, false, false, false, false, true, false, false, false] rfl rfl (any_of HT_.out (by kernel_rfl)) (fun _ _ _ h => h) (Or.inl ⟨by rfl, ?_⟩) ?_ ?_
        rotate_left
        · intro w'
          go_simp
          with_reducible rfl
        rotate_left
        · simp only [Act.put, List.setIfInBounds_toArray, List.set_cons_zero, List.set_cons_succ, i64_w, i32_w]
          rfl
        refine pure_ (i := 8) (N := some 25) (v := ?_) (a' := ?_) #[true, true, true, true, true, true, true, true, true, false, false, false, true, false, false, false] rfl rfl (any_of HT_.out (by kernel_rfl)) (fun _ _ _ h => h) (Or.inl ⟨by rfl, ?_⟩) ?_ ?_
        rotate_left
        · intro w'
          go_simp
          with_reducible rfl
        rotate_left
        · simp only [Act.put, List.setIfInBounds_toArray, List.set_cons_zero, List.set_cons_succ, i64_w, i32_w]
          rfl
        refine pure_ (i := 9) (N := some 26) (v := ?_) (a' := ?_) #[true, true, true, true, true, true, true, true, true, true, false, false, true, false, false, false] rfl rfl (any_of HT_.out (by kernel_rfl)) (fun _ _ _ h => h) (Or.inl ⟨by rfl, ?_⟩) ?_ ?_
        rotate_left
        · intro w'
          go_simp
          with_reducible rfl
        rotate_left
        · simp only [Act.put, List.setIfInBounds_toArray, List.set_cons_zero, List.set_cons_succ, i64_w, i32_w]
          rfl
        refine take_ (i := 13) (N := some 30) (v := ?_) (a' := ?_) #[true, true, true, true, true, true, true, true, true, true, false, false, true, true, false, false] rfl rfl (take_ofW HT_.out HW_.out (by kernel_rfl)) (fun _ _ _ h => h) (Or.inl ⟨by rfl, ?_⟩) hHeld ?_ ?_
        rotate_left
        · rintro w' ⟨s0, s1, s2⟩
          go_simp
          with_reducible rfl
        rotate_left
        · simp only [Act.put, List.setIfInBounds_toArray, List.set_cons_zero, List.set_cons_succ, i64_w, i32_w]
          rfl
        refine one_ (i := 10) (N := some 27) #[true, true, true, true, true, true, true, true, true, true, true, false, true, true, false, false] rfl rfl (one_of HT_.out (by kernel_rfl)) (by decide) (fun K hK => ?_)
        refine Kd.R_lit_step (Kd.int .u8) _ 5 ?hg (N := 27) ?hd (xs := ([((a0_2.size : Int)) % 256, ((a0_2.size : Int) / 256) % 256] : List Int)) (inner := [.int .u8 (((a0_2.size : Int)) % 256), .int .u8 (((a0_2.size : Int) / 256) % 256)]) (ok := fun _ => True) (okp := fun _ => True) ?hr ?hp (fun _ hk => hk) trivial (Below.refl _ _) (Nat.le_refl _) (by simp) ?_; (case hd => rfl); (case hg => rfl); (case hr => first | (go_simp; done) | (go_simp; rfl)); (case hp => exact (Reps.one (show Kd.M (Kd.int .u8) _ _ _ (((a0_2.size : Int)) % 256) [.int .u8 (((a0_2.size : Int)) % 256)] from rfl) (Reps.one (show Kd.M (Kd.int .u8) _ _ _ (((a0_2.size : Int) / 256) % 256) [.int .u8 (((a0_2.size : Int) / 256) % 256)] from rfl) (Reps.none _ _))))
        intro v145 w13 ho14 hb hg_ hnew_
        clear hg_ hnew_
        (first | rw [← Ny144.out] at ho14 | (simp only [Int.reduceToNat] at ho14; rw [← Ny144.out] at ho14))
        have n0_ := Aside0.mk (Kd.R_elder' (by (with_reducible repeat (first | apply Kd.R_alloc | apply Kd.R_drewN | apply Kd.R_drew)); exact HO143.out) (Kd.R_base ho14) hb)
        have n1_ := Aside0.mk (Kd.R_lower (Kd.R_new' ho14 (Kd.R_lt (by (with_reducible repeat (first | apply Kd.R_alloc | apply Kd.R_drewN | apply Kd.R_drew)); exact HO143.out))) (below_size (by repeat (first | (with_reducible first | exact HB.out | apply below_alloc | apply pw_below_drewN | apply below_drew1 | refine below_set ?_ GE137.out) | exact HB.out))))
        have n2_ := Aside0.mk (blk_below (g := gb137) (o := .cells #[.int .i64 a0_0, .string a0_1, .string a0_2] 25 (0, 0)) (by (with_reducible repeat (first | refine blk_drewN ?_ _ | refine blk_drew ?_ | refine blk_alloc ?_ _)); exact BK137.out) hb)
        have n3_ := Aside0.mk (below_step (by repeat (first | (with_reducible first | exact HB.out | apply below_alloc | apply pw_below_drewN | apply below_drew1 | refine below_set ?_ GE137.out) | exact HB.out)) hb)
        clear HO143
        clear BK137
        clear HB
        have HO143 := n0_
        have HO146 := n1_
        have BK137 := n2_
        have HB := n3_
        clear n0_ n1_ n2_ n3_
        clear hb ho14
        obtain ⟨Ao16, co16, eo16⟩ := Kd.R_slice HO146.out
        (first | subst eo16 | (injection eo16 with f1_ f2_ f3_; have f4_ := f1_.symm; have f5_ := f3_.symm; clear f1_ f2_ f3_; subst f4_; subst f5_))
        refine hK.out _ _ ⟨(blk_cell BK137.out 0).trans rfl, (blk_cell BK137.out 1).trans rfl, (blk_cell BK137.out 2).trans rfl⟩ (fun hHeld => ?_)
        clear hK K
        refine norm_ (a' := ?_) ?_ ?_
        rotate_left
        · show Act.put _ (some 27) _ = _
          simp only [Act.put, List.setIfInBounds_toArray, List.set_cons_zero, List.set_cons_succ, i64_w, i32_w]
          rfl
        refine one_ (i := 11) (N := some 28) #[true, true, true, true, true, true, true, true, true, true, true, true, true, true, false, false] rfl rfl (one_of HT_.out (by kernel_rfl)) (by decide) (fun K hK => ?_)
        refine Kd.R_append_rows_step (Kd.int .u8) (w0 := w) w.heap.size (by rfl) (.tmp 17) (.tmp 27) 28 5 (.int .u8 0) 1 rfl Tryd.underlying28 info5 rfl (by decide) (by omega) v142 y141 y144 _ _ _ (fun k_ => some k_ ≠ (.slice Ao16 y144.length co16 : Value).ownBlock) (fun _ => False) rfl rfl ?aO ?aR (fun _ _ h => h) (fun _ h => h.elim) ?aF ?aB ?aS ?aL ?_
        (case aR => repeat (first | exact (Kd.R_reads' HO146.out).2.2 | (with_reducible refine Kd.C_alloc ?_ _) | (with_reducible refine Kd.C_drewN ?_ _) | (with_reducible refine Kd.C_drew ?_)))
        (case aB => exact (by repeat (first | (with_reducible first | exact HB.out | apply below_alloc | apply pw_below_drewN | apply below_drew1 | refine below_set ?_ GE137.out) | exact HB.out)))
        (case aF => exact (fun k_ hk => Kd.fresh' (Kd.R_lt (by (with_reducible repeat (first | apply Kd.R_alloc | apply Kd.R_drewN | apply Kd.R_drew)); exact HO146.out)) k_ hk))
        (case aO => exact (by (with_reducible repeat (first | apply Kd.R_alloc | apply Kd.R_drewN | apply Kd.R_drew)); exact Kd.R_mono HO143.out (fun _ hk => hk.2)))
        (case aS => exact (below_size (by repeat (first | (with_reducible first | exact HB.out | apply below_alloc | apply pw_below_drewN | apply below_drew1 | refine below_set ?_ GE137.out) | exact HB.out))))
        (case aL => have := LMc3.out; omega)
        intro v148 w15 ho hb hg hat
        rw [← Ny147.out] at ho
        have n0_ := Aside0.mk (blk_grown (g := gb137) (o := .cells #[.int .i64 a0_0, .string a0_1, .string a0_2] 25 (0, 0)) (by (with_reducible repeat (first | refine blk_drewN ?_ _ | refine blk_drew ?_ | refine blk_alloc ?_ _)); exact BK137.out) hg (Kd.R_ne HO143.out BK137.out (by decide)))
        have n1_ := Aside0.mk (Kd.R_after (ok := (fun _ => True)) (by (with_reducible repeat (first | apply Kd.R_alloc | apply Kd.R_drewN | apply Kd.R_drew)); exact HO146.out) hg hat)
        have n2_ := Aside0.mk (hb)
        have n3_ := Aside0.mk (ho)
        clear BK137
        clear HO146
        clear HB
        clear HO143
        have BK137 := n0_
        have HO146 := n1_
        have HB := n2_
        have HO149 := n3_
        clear n0_ n1_ n2_ n3_
        clear ho hb hg hat
        refine hK.out _ _ ⟨(blk_cell BK137.out 0).trans rfl, (blk_cell BK137.out 1).trans rfl, (blk_cell BK137.out 2).trans rfl⟩ (fun hHeld => ?_)
        clear hK K
        refine norm_ (a' := ?_) ?_ ?_
        rotate_left
        · show Act.put _ (some 28) _ = _
          simp only [Act.put, List.setIfInBounds_toArray, List.set_cons_zero, List.set_cons_succ, i64_w, i32_w]
          rfl
        refine one_ (i := 14) (N := some 31) #[true, true, true, true, true, true, true, true, true, true, true, true, true, true, true, false] rfl rfl (one_of HT_.out (by kernel_rfl)) (by decide) (fun K hK => ?_)
        refine print_append_str_step (w0 := w) w.heap.size (by rfl) (.tmp 28) _ 28 9 5 rfl Tryd.underlying28 Tryd.underlying9 info5 v148 y147 a0_2 rfl rfl ?aO ?aB ?aS ?aL ?_
        (case aB => exact (by repeat (first | (with_reducible first | exact HB.out | apply below_alloc | apply pw_below_drewN | apply below_drew1 | refine below_set ?_ GE137.out) | exact HB.out)))
        (case aO => exact (Kd.own_of_R (by (with_reducible repeat (first | apply Kd.R_alloc | apply Kd.R_drewN | apply Kd.R_drew)); exact Kd.R_mono HO149.out (fun _ hk => trivial))))
        (case aS => exact (below_size (by repeat (first | (with_reducible first | exact HB.out | apply below_alloc | apply pw_below_drewN | apply below_drew1 | refine below_set ?_ GE137.out) | exact HB.out))))
        (case aL => have := LMc4.out; omega)
        intro v151 w17 ho0 hb hg
        have ho := Kd.R_of_own (h1 := fun _ => rfl) (ok := fun _ => True) ho0 (fun _ _ => trivial)
        clear ho0
        have hat := True.intro
        rw [← Ny150.out] at ho
        change Kd.R (Kd.int .u8) 5 w17 w.heap.size (fun _ => True) v151 y150 at ho
        have n0_ := Aside0.mk (blk_grown (g := gb137) (o := .cells #[.int .i64 a0_0, .string a0_1, .string a0_2] 25 (0, 0)) (by (with_reducible repeat (first | refine blk_drewN ?_ _ | refine blk_drew ?_ | refine blk_alloc ?_ _)); exact BK137.out) hg (Kd.R_ne HO149.out BK137.out (by decide)))
        have n1_ := Aside0.mk (hb)
        have n2_ := Aside0.mk (ho)
        clear BK137
        clear HB
        clear HO149
        have BK137 := n0_
        have HB := n1_
        have HO152 := n2_
        clear n0_ n1_ n2_
        clear ho hb hg hat
        refine hK.out _ _ ⟨(blk_cell BK137.out 0).trans rfl, (blk_cell BK137.out 1).trans rfl, (blk_cell BK137.out 2).trans rfl⟩ (fun hHeld => ?_)
        clear hK K
        refine norm_ (a' := ?_) ?_ ?_
        rotate_left
        · show Act.put _ (some 31) _ = _
          simp only [Act.put, List.setIfInBounds_toArray, List.set_cons_zero, List.set_cons_succ, i64_w, i32_w]
          rfl
        refine pure_ (i := 15) (N := some 3) (v := ?_) (a' := ?_) #[true, true, true, true, true, true, true, true, true, true, true, true, true, true, true, true] rfl rfl (any_of HT_.out (by kernel_rfl)) (fun _ _ _ h => h) (Or.inl ⟨by rfl, ?_⟩) ?_ ?_
        rotate_left
        · intro w'
          go_simp
          with_reducible rfl
        rotate_left
        · simp only [Act.put, List.setIfInBounds_toArray, List.set_cons_zero, List.set_cons_succ, i64_w, i32_w]
          rfl
        refine done_ (done_of HT_.out (by kernel_rfl)) ?_
        obtain ⟨Ao18, co18, eo18⟩ := Kd.R_slice HO152.out
        subst eo18
        try go_wp2_with (first | ((with_reducible refine gate_callee (f := 19) rfl ?_); refine goesL_ (some 33) rfl rfl Tryd.func19 (by kernel_rfl) rfl #[.slice Ao18 y150.length co18] rfl (by (try simp only [List.map_toArray, List.map_cons, List.map_nil]); first | done | rfl | (simp only [List.length_drop, List.length_take]; rfl)) ?_; (with_reducible refine (deadboltref2_Crc.calls k _ _ y150 t153 _ ?side1 ?side2 A5.out).mono ?_); (case side1 => repeat (first | exact (Kd.R_reads' HO152.out).2.2 | (with_reducible refine Kd.C_alloc ?_ _) | (with_reducible refine Kd.C_drewN ?_ _) | (with_reducible refine Kd.C_drew ?_))); (case side2 => exact (Kd.R_reads' HO152.out).2.1); rintro e w' ⟨rfl, ⟨nd, rfl⟩⟩; refine ⟨_, rfl, ?_⟩))
        go_loopg [3, 5] k (fun kq v3 v5 w' => ∃ (x3_1 : List Int) (x5_1 : Int), v5 = .int .i64 x5_1 ∧ Aside0 (deadboltref15_Bytes.l0 kq x3_1 t153 x5_1 = some r) ∧ Aside0 (kq ≤ k) ∧ Aside0 (Kd.R (Kd.int .u8) 5 w' w.heap.size (fun _ => True) v3 x3_1) ∧ Aside0 (w'.heap[gb137]? = some (.cells #[.int .i64 a0_0, .string a0_1, .string a0_2] 25 (0, 0))) ∧ Aside0 (Below w.heap.size w w'))
        case atStart => exact ⟨(y150), (0), (by first | rfl | (simp; done) | (simp [*]; done)), H', ⟨Nat.le_refl _⟩, ⟨by (with_reducible repeat (first | apply Kd.R_alloc | apply Kd.R_drewN | apply Kd.R_drew)); exact HO152.out⟩, ⟨by (with_reducible repeat (first | refine blk_drewN ?_ _ | refine blk_drew ?_ | refine blk_alloc ?_ _)); exact BK137.out⟩, ⟨by repeat (first | (with_reducible first | exact HB.out | apply below_alloc | apply pw_below_drewN | apply below_drew1 | refine below_set ?_ GE137.out) | exact HB.out)⟩⟩
        case round =>
          clear H'
          try clear c1
          try clear c2
          try clear p2
          try clear c3
          try clear c4
          try clear c14
          try clear hcz10_0
          try clear hcz10_1
          try clear hcz10_2
          try clear hcz7_0
          try clear hcz7_1
          try clear hcz7_2
          try clear hfz10_0
          try clear hfz10_1
          try clear hfz10_2
          try clear hfz7_0
          try clear hfz7_1
          try clear hfz7_2
          obtain ⟨x3_1, x5_1, rfl, HA, HK1, HO_3, BK137, HB⟩ := hrel
          cases gk with
          | zero => exact absurd HA.out (by simp [deadboltref15_Bytes.l0])
          | succ k1 =>
            have H := HA.out
            clear HA
            simp only [deadboltref15_Bytes.l0] at H
            by_cases c19 : x5_1 < 4
            · rw [if_pos c19] at H
              have c19b0 : decide (x5_1 < 4) = true := decide_eq_true c19
              clear c19
              obtain ⟨ji20, hji20⟩ : ∃ j_ : Int, (IntKind.u64.wrap (wrap64 (8 * x5_1))) = j_ := ⟨_, rfl⟩
              replace H : (if 0 ≤ (ji20) then (if x3_1.length < 140737488355328 then (deadboltref15_Bytes.l0 k1 (x3_1 ++ [(shr .u32 t153 (ji20)) % 256]) t153 (wrap64 (x5_1 + 1))) else (none)) else (none)) = some r := by first | (rw [hji20] at H; exact H) | (simp only [hji20] at H ⊢; exact H)
              by_cases c21 : 0 ≤ (ji20)
              · rw [if_pos c21] at H
                have c21b0 := eq_true c21
                have c21b1 : decide (0 ≤ (ji20)) = true := decide_eq_true c21
                clear c21
                obtain ⟨ji22, hji22⟩ : ∃ j_ : Int, (shr .u32 t153 (ji20)) = j_ := ⟨_, rfl⟩
                replace H : (if x3_1.length < 140737488355328 then (deadboltref15_Bytes.l0 k1 (x3_1 ++ [(ji22) % 256]) t153 (wrap64 (x5_1 + 1))) else (none)) = some r := by first | (rw [hji22] at H; exact H) | (simp only [hji22] at H ⊢; exact H)
                have hji22_ : (t153 / 2 ^ min (ji20).toNat 32) = ji22 := hji22
                have hji22z : (ji20) ≤ 32 → (t153 / 2 ^ (ji20).toNat) = ji22 := shr_small hji22
                by_cases c23 : x3_1.length < 140737488355328
                · rw [if_pos c23] at H
                  have LMc23 := Aside0.mk c23
                  clear c23
                  obtain ⟨y154, hy154⟩ : ∃ y_ : List Int, y_ = (x3_1 ++ [(ji22) % 256]) := ⟨_, rfl⟩
                  replace H : (deadboltref15_Bytes.l0 k1 y154 t153 (wrap64 (x5_1 + 1))) = some r := by first | (rw [hy154]; with_reducible exact H) | (have H2_ := (Option.bind_some _ _).symm.trans H; rw [hy154]; with_reducible exact H2_) | (have H2_ := (Option.bind_some _ _).symm.trans H; with_reducible exact H2_) | with_reducible exact H | (rw [hy154]; exact H) | exact H
                  have Ny154 := Aside0.mk hy154
                  clear hy154
                  have H' := Aside0.mk H
                  clear H
                  go_wp2_with (first | ((with_reducible refine gate_builtin (b := .append) (xs := #[.tmp 38, .tmp 45]) rfl ?_); at_builtin; refine Kd.R_append (Kd.int .u8) (w0 := w) w.heap.size rfl (.tmp 38) (.tmp 45) 28 5 (.int .u8 0) 1 rfl Tryd.underlying28 info5 rfl (by decide) (by omega) u3 x3_1 ((ji22) % 256) [.int .u8 ((ji22) % 256)] (fun _ => True) (fun _ => False) rfl rfl ?aP (fun _ hk => hk.elim) ?aF ?aO ?aB ?aS ?aL ?_; (case aP => exact rfl); (case aB => exact (by repeat (first | (with_reducible first | exact HB.out | apply below_alloc | apply pw_below_drewN | apply below_drew1 | refine below_set ?_ GE137.out) | exact HB.out))); (case aF => exact (fun _ _ => trivial)); (case aO => exact (by (with_reducible repeat (first | apply Kd.R_alloc | apply Kd.R_drewN | apply Kd.R_drew)); exact HO_3.out)); (case aS => exact (below_size (by repeat (first | (with_reducible first | exact HB.out | apply below_alloc | apply pw_below_drewN | apply below_drew1 | refine below_set ?_ GE137.out) | exact HB.out)))); (case aL => have := LMc23.out; omega); intro v155 w24 ho hb hg hat; rw [← Ny154.out] at ho; have n0_ := Aside0.mk (blk_grown (g := gb137) (o := .cells #[.int .i64 a0_0, .string a0_1, .string a0_2] 25 (0, 0)) (by (with_reducible repeat (first | refine blk_drewN ?_ _ | refine blk_drew ?_ | refine blk_alloc ?_ _)); exact BK137.out) hg (Kd.R_ne HO_3.out BK137.out (by decide))); have n1_ := Aside0.mk (hb); have n2_ := Aside0.mk (ho); clear BK137; clear HB; clear HO_3; have BK137 := n0_; have HB := n1_; have HO156 := n2_; clear n0_ n1_ n2_; clear ho hb hg hat))
                  go_roundg k1
                  case measure => have := HK1.out; omega
                  case rel => exact ⟨(y154), (wrap64 (x5_1 + 1)), (by first | rfl | (simp; done) | (simp [*]; done)), H', ⟨by have := HK1.out; omega⟩, ⟨by (with_reducible repeat (first | apply Kd.R_alloc | apply Kd.R_drewN | apply Kd.R_drew)); exact HO156.out⟩, ⟨by (with_reducible repeat (first | refine blk_drewN ?_ _ | refine blk_drew ?_ | refine blk_alloc ?_ _)); exact BK137.out⟩, ⟨by repeat (first | (with_reducible first | exact HB.out | apply below_alloc | apply pw_below_drewN | apply below_drew1 | refine below_set ?_ GE137.out) | exact HB.out)⟩⟩
                · rw [if_neg c23] at H
                  exact absurd H (by simp)
              · rw [if_neg c21] at H
                exact absurd H (by simp)
            · rw [if_neg c19] at H
              have c19b0 : decide (x5_1 < 4) = false := decide_eq_false c19
              clear c19
              obtain rfl := Option.some.inj H
              go_wp2
              go_ret
              exact ⟨_, by first | rfl | (simp [errW_none, errW_some] <;> rfl) | (simp [*, errW_none, errW_some] <;> rfl), by (with_reducible repeat (first | apply Kd.R_alloc | apply Kd.R_drewN | apply Kd.R_drew)); exact HO_3.out, by repeat (first | (with_reducible first | exact HB.out | apply below_alloc | apply pw_below_drewN | apply below_drew1 | refine below_set ?_ GE137.out) | exact HB.out)⟩
      · rw [if_neg c4] at H
        exact absurd H (by simp)
    · rw [if_neg c3] at H
      exact absurd H (by simp)
  · rw [if_neg c2] at H
    exact absurd H (by simp)

/-! ### deadboltlaw15_within: function 15 -/
def deadboltlaw15_within.f (a0 : Int) (a1 : Int) : Option (Int) := if a1 = 0 then (none) else (if (Int.tmod a0 a1) < 0 then (some (wrap64 ((Int.tmod a0 a1) + a1))) else (some (Int.tmod a0 a1)))
set_option maxHeartbeats 8000000 in
set_option maxRecDepth 100000 in
theorem deadboltlaw15_within.calls (a0 : Int) (a1 : Int) (r : Int) (w : World) (h : deadboltlaw15_within.f a0 a1 = some r) :
    Calls Tryd.prog 15 #[.int .i64 a0, .int .i64 a1] w fun e w' => e = .returned (.int .i64 r) ∧ Drawn0 w w' := by
  have H : (if a1 = 0 then (none) else (if (Int.tmod a0 a1) < 0 then (some (wrap64 ((Int.tmod a0 a1) + a1))) else (some (Int.tmod a0 a1)))) = some r := h
  clear h
  by_cases c3 : a1 = 0
  · rw [if_pos c3] at H
    exact absurd H (by simp)
  · rw [if_neg c3] at H
    have c3b0 : (a1 == 0) = false := beq_eq_false_iff_ne.mpr c3
    have c3b1 : (a1 != 0) = true := bne_iff_ne.mpr c3
    by_cases c4 : (Int.tmod a0 a1) < 0
    · rw [if_pos c4] at H
      have c4b0 : decide ((Int.tmod a0 a1) < 0) = true := decide_eq_true c4
      clear c4
      obtain rfl := Option.some.inj H
      go_enter Tryd.func15, Tryd.ntmps15
      go_wp2
      go_ret
      exact ⟨by first | rfl | (simp; done) | (simp [*]; done), by repeat (first | exact Drawn0.refl _ | apply Drawn0.step)⟩
    · rw [if_neg c4] at H
      have c4b0 : decide ((Int.tmod a0 a1) < 0) = false := decide_eq_false c4
      clear c4
      obtain rfl := Option.some.inj H
      go_enter Tryd.func15, Tryd.ntmps15
      go_wp2
      go_ret
      exact ⟨by first | rfl | (simp; done) | (simp [*]; done), by repeat (first | exact Drawn0.refl _ | apply Drawn0.step)⟩

/-! ### deadboltlaw15_Make: function 10 -/
def deadboltlaw15_Make.j0 : Nat → Int → ByteArray → Bool → Int → ByteArray → ByteArray → Option (Int × ByteArray × ByteArray)
  | 0, _, _, _, _, _, _ => none
  | k + 1, x1, x2, x24, x173000, x173001, x173002 => if x24 = true then ((some (([(⟨#[97]⟩ : ByteArray), (⟨#[109, 97, 105, 110]⟩ : ByteArray), (⟨#[102]⟩ : ByteArray), (⟨#[97, 98, 99, 100, 101, 102, 103, 104, 105, 106, 107, 108]⟩ : ByteArray), (⟨#[113, 57]⟩ : ByteArray)] : List ByteArray) : List ByteArray)).bind fun y173 => ((deadboltlaw15_within.f x1 5).bind fun t176 => (if 0 ≤ t176 then (if t176 < (y173.length : Int) then (if x173000 = 1 then (if 0 ≤ (mn (x2.size : Int) 2000) then (if (mn (x2.size : Int) 2000) ≤ (x2.size : Int) then (some (x173000, rdOf ByteArray.empty y173 t176, x2.extract 0 ((mn (x2.size : Int) 2000) : Int).toNat)) else (none)) else (none)) else (some (x173000, rdOf ByteArray.empty y173 t176, x173002))) else (none)) else (none)))) else (if x173000 = 1 then (if 0 ≤ (mn (x2.size : Int) 2000) then (if (mn (x2.size : Int) 2000) ≤ (x2.size : Int) then (some (x173000, x173001, x2.extract 0 ((mn (x2.size : Int) 2000) : Int).toNat)) else (none)) else (none)) else (some (x173000, x173001, x173002)))
def deadboltlaw15_Make.f (k : Nat) (a0 : Int) (a1 : Int) (a2 : ByteArray) : Option (Int × ByteArray × ByteArray) := (deadboltlaw15_within.f a0 7).bind fun t171 => (if (wrap64 (1 + t171)) = 1 then (deadboltlaw15_Make.j0 k a1 a2 true (wrap64 (1 + t171)) (⟨#[]⟩ : ByteArray) (⟨#[]⟩ : ByteArray)) else (if (wrap64 (1 + t171)) = 2 then (deadboltlaw15_Make.j0 k a1 a2 true (wrap64 (1 + t171)) (⟨#[]⟩ : ByteArray) (⟨#[]⟩ : ByteArray)) else (deadboltlaw15_Make.j0 k a1 a2 ((wrap64 (1 + t171)) == 6) (wrap64 (1 + t171)) (⟨#[]⟩ : ByteArray) (⟨#[]⟩ : ByteArray))))
theorem deadboltlaw15_Make.mono_l : ∀ k, (∀ y0 y1 y2 y3 y4 y5, LeO (deadboltlaw15_Make.j0 k y0 y1 y2 y3 y4 y5) (deadboltlaw15_Make.j0 (k + 1) y0 y1 y2 y3 y4 y5))
  | 0 => fun _ _ _ _ _ _ r h => by simp [deadboltlaw15_Make.j0] at h
  | k + 1 => by
    have ih0 := deadboltlaw15_Make.mono_l k
    · intro y0 y1 y2 y3 y4 y5
      unfold deadboltlaw15_Make.j0
      repeat' first
      | (with_reducible exact ih0 _ _ _ _ _ _)
      | (with_reducible exact LeO.refl _)
      | (with_reducible exact LeO.none _)
      | (with_reducible refine LeO.ite ?_ ?_)
      | (with_reducible refine LeO.bind ?_ (fun _ => ?_))
      | exact ih0 _ _ _ _ _ _
      | exact LeO.none _
      | refine LeO.ite ?_ ?_
      | refine LeO.bind ?_ (fun _ => ?_)
theorem deadboltlaw15_Make.mono : ∀ a0 a1 a2 k, LeO (deadboltlaw15_Make.f k a0 a1 a2) (deadboltlaw15_Make.f (k + 1) a0 a1 a2) := by
  intro a0 a1 a2 k
  have ih0 := deadboltlaw15_Make.mono_l k
  unfold deadboltlaw15_Make.f
  repeat' first
      | (with_reducible exact ih0 _ _ _ _ _ _)
      | (with_reducible exact LeO.refl _)
      | (with_reducible exact LeO.none _)
      | (with_reducible refine LeO.ite ?_ ?_)
      | (with_reducible refine LeO.bind ?_ (fun _ => ?_))
      | exact ih0 _ _ _ _ _ _
      | exact LeO.none _
      | refine LeO.ite ?_ ?_
      | refine LeO.bind ?_ (fun _ => ?_)
set_option maxHeartbeats 8000000 in
set_option maxRecDepth 100000 in
theorem deadboltlaw15_Make.calls (k : Nat) (a0 : Int) (a1 : Int) (a2 : ByteArray) (r1 : Int) (r2 : ByteArray) (r3 : ByteArray) (w : World) (h : deadboltlaw15_Make.f k a0 a1 a2 = some (r1, r2, r3)) :
    Calls Tryd.prog 10 #[.int .i64 a0, .int .i64 a1, .string a2] w fun e w' => e = .returned (.agg #[.int .i64 r1, .string r2, .string r3]) ∧ Below w.heap.size w w' := by
  have hu25 := Tryd.underlying25
  have HB := Aside0.mk (Below.refl w.heap.size w)
  have H : ((deadboltlaw15_within.f a0 7).bind fun t171 => (if (wrap64 (1 + t171)) = 1 then (deadboltlaw15_Make.j0 k a1 a2 true (wrap64 (1 + t171)) (⟨#[]⟩ : ByteArray) (⟨#[]⟩ : ByteArray)) else (if (wrap64 (1 + t171)) = 2 then (deadboltlaw15_Make.j0 k a1 a2 true (wrap64 (1 + t171)) (⟨#[]⟩ : ByteArray) (⟨#[]⟩ : ByteArray)) else (deadboltlaw15_Make.j0 k a1 a2 ((wrap64 (1 + t171)) == 6) (wrap64 (1 + t171)) (⟨#[]⟩ : ByteArray) (⟨#[]⟩ : ByteArray))))) = some (r1, r2, r3) := h
  clear h
  replace H := Option.bind_eq_some_iff.mp H
  obtain ⟨t171, A40, H⟩ := H
  replace H : (if (wrap64 (1 + t171)) = 1 then (deadboltlaw15_Make.j0 k a1 a2 true (wrap64 (1 + t171)) (⟨#[]⟩ : ByteArray) (⟨#[]⟩ : ByteArray)) else (if (wrap64 (1 + t171)) = 2 then (deadboltlaw15_Make.j0 k a1 a2 true (wrap64 (1 + t171)) (⟨#[]⟩ : ByteArray) (⟨#[]⟩ : ByteArray)) else (deadboltlaw15_Make.j0 k a1 a2 ((wrap64 (1 + t171)) == 6) (wrap64 (1 + t171)) (⟨#[]⟩ : ByteArray) (⟨#[]⟩ : ByteArray)))) = some (r1, r2, r3) := H
  have A4 := Aside0.mk A40
  clear A40
  have HC5 := Aside0.mk H
  clear H
  go_enter Tryd.func10, Tryd.ntmps10
  go_upto_region 2 with (first | ((with_reducible refine gate_dst (N := 6) rfl ?_); refine box_event ?hg (N := 6) ?hd (cs := #[.int .i64 0, .string (⟨#[]⟩ : ByteArray), .string (⟨#[]⟩ : ByteArray)]) (t := 25) ?hr ?_; (case hd => rfl); (case hg => rfl); (case hr => first | (go_simp; done) | (go_simp; rfl)); intro gb170 hg w6 hbox hb; have n0_ := Aside0.mk (below_step (by repeat (first | (with_reducible first | exact HB.out | apply below_alloc | apply pw_below_drewN | apply below_drew1) | exact HB.out)) hb); have n1_ := Aside0.mk (hbox); have n2_ := Aside0.mk ((by rw [hg]; exact (below_size (by repeat (first | (with_reducible first | exact HB.out | apply below_alloc | apply pw_below_drewN | apply below_drew1) | exact HB.out))) : w.heap.size ≤ gb170)); have n3_ := Aside0.mk ((by rw [hg]; exact (below_size (by repeat (first | (with_reducible first | exact HB.out | apply below_alloc | apply pw_below_drewN | apply below_drew1) | exact HB.out))) : w.heap.size ≤ gb170)); clear HB; have HB := n0_; have BK170 := n1_; have GW170 := n2_; have GE170 := n3_; clear n0_ n1_ n2_ n3_; clear hb hbox hg) | ((with_reducible refine gate_callee (f := 15) rfl ?_); refine goesL_ (some 9) rfl rfl Tryd.func15 (by kernel_rfl) rfl #[.int .i64 a0, .int .i64 7] rfl (by (try simp only [List.map_toArray, List.map_cons, List.map_nil]); first | done | rfl | (simp only [List.length_drop, List.length_take]; rfl)) ?_; (with_reducible refine (deadboltlaw15_within.calls a0 7 t171 _ A4.out).mono ?_); rintro e w' ⟨rfl, ⟨nd, rfl⟩⟩; refine ⟨_, rfl, ?_⟩; (try (rw [drewN_self w6]; generalize hq_ : World.drewN w6 _ = w6; have n0_ : Aside0 (w6.heap[gb170]? = some (.cells #[.int .i64 0, .string (⟨#[]⟩ : ByteArray), .string (⟨#[]⟩ : ByteArray)] 25 (0, 0))) := ⟨by rw [← hq_]; exact (by (with_reducible repeat (first | refine blk_drewN ?_ _ | refine blk_drew ?_ | refine blk_alloc ?_ _)); exact BK170.out)⟩; have n1_ : Aside0 (Below w.heap.size w w6) := ⟨by rw [← hq_]; exact (by repeat (first | (with_reducible first | exact HB.out | apply below_alloc | apply pw_below_drewN | apply below_drew1 | refine below_set ?_ GE170.out) | exact HB.out))⟩; clear BK170 HB hq_; have BK170 := n0_; have HB := n1_; clear n0_ n1_))) | ((with_reducible refine gate_dst (N := 7) rfl ?_); refine box_event ?hg (N := 7) ?hd (cs := #[.int .i64 0, .string (⟨#[]⟩ : ByteArray), .string (⟨#[]⟩ : ByteArray)]) (t := 25) ?hr ?_; (case hd => rfl); (case hg => rfl); (case hr => first | (go_simp; done) | (go_simp; rfl)); intro gb172 hg w7 hbox hb; have n0_ := Aside0.mk (blk_below (g := gb170) (o := .cells #[.int .i64 0, .string (⟨#[]⟩ : ByteArray), .string (⟨#[]⟩ : ByteArray)] 25 (0, 0)) (by (with_reducible repeat (first | refine blk_drewN ?_ _ | refine blk_drew ?_ | refine blk_alloc ?_ _)); exact BK170.out) hb); have n1_ := Aside0.mk (below_step (by repeat (first | (with_reducible first | exact HB.out | apply below_alloc | apply pw_below_drewN | apply below_drew1 | refine below_set ?_ GE170.out) | exact HB.out)) hb); have n2_ := Aside0.mk (hbox); have n3_ := Aside0.mk ((by rw [hg]; exact (below_size (by repeat (first | (with_reducible first | exact HB.out | apply below_alloc | apply pw_below_drewN | apply below_drew1 | refine below_set ?_ GE170.out) | exact HB.out))) : w.heap.size ≤ gb172)); have n4_ := Aside0.mk ((by rw [hg]; exact (below_size (by repeat (first | (with_reducible first | exact HB.out | apply below_alloc | apply pw_below_drewN | apply below_drew1 | refine below_set ?_ GE170.out) | exact HB.out))) : w.heap.size ≤ gb172)); have n5_ := Aside0.mk ((by rw [hg]; exact Nat.ne_of_lt (blk_lt (g := gb170) (o := .cells #[.int .i64 0, .string (⟨#[]⟩ : ByteArray), .string (⟨#[]⟩ : ByteArray)] 25 (0, 0)) (by (with_reducible repeat (first | refine blk_drewN ?_ _ | refine blk_drew ?_ | refine blk_alloc ?_ _)); exact BK170.out)) : gb170 ≠ gb172)); have n6_ := Aside0.mk ((by rw [hg]; exact Nat.ne_of_gt (blk_lt (g := gb170) (o := .cells #[.int .i64 0, .string (⟨#[]⟩ : ByteArray), .string (⟨#[]⟩ : ByteArray)] 25 (0, 0)) (by (with_reducible repeat (first | refine blk_drewN ?_ _ | refine blk_drew ?_ | refine blk_alloc ?_ _)); exact BK170.out)) : gb172 ≠ gb170)); clear BK170; clear HB; have BK170 := n0_; have HB := n1_; have BK172 := n2_; have GW172 := n3_; have GE172 := n4_; have NB170_172 := n5_; have NB172_170 := n6_; clear n0_ n1_ n2_ n3_ n4_ n5_ n6_; clear hb hbox hg; have hnb8 := NB172_170.out; have hnc8 := NB170_172.out; have hcz9_0 : w7.cell? ⟨gb172, 0, none⟩ = some (.int .i64 0) := (blk_cell BK172.out 0).trans rfl; have hcz9_1 : w7.cell? ⟨gb172, 1, none⟩ = some (.string (⟨#[]⟩ : ByteArray)) := (blk_cell BK172.out 1).trans rfl; have hcz9_2 : w7.cell? ⟨gb172, 2, none⟩ = some (.string (⟨#[]⟩ : ByteArray)) := (blk_cell BK172.out 2).trans rfl; have hfz9_0 := blk_frozen BK172.out 0; have hfz9_1 := blk_frozen BK172.out 1; have hfz9_2 := blk_frozen BK172.out 2))
  (try simp only [Act.put, List.setIfInBounds_toArray, List.set_cons_zero, List.set_cons_succ])
  go_cut [24] (fun v24 wc => ∃ (kq : Nat) (x24_4 : Bool), v24 = .bool x24_4 ∧ Aside0 (deadboltlaw15_Make.j0 kq a1 a2 x24_4 (wrap64 (1 + t171)) (⟨#[]⟩ : ByteArray) (⟨#[]⟩ : ByteArray) = some (r1, r2, r3)) ∧ Aside0 (kq ≤ k) ∧ Aside0 (wc.heap[gb170]? = some (.cells #[.int .i64 0, .string (⟨#[]⟩ : ByteArray), .string (⟨#[]⟩ : ByteArray)] 25 (0, 0))) ∧ Aside0 (wc.heap[gb172]? = some (.cells #[.int .i64 (wrap64 (1 + t171)), .string (⟨#[]⟩ : ByteArray), .string (⟨#[]⟩ : ByteArray)] 25 (0, 0))) ∧ Aside0 (Below w.heap.size w wc))
  case first =>
    have H := HC5.out
    clear HC5
    by_cases c10 : (wrap64 (1 + t171)) = 1
    · rw [if_pos c10] at H
      have c10b0 : ((wrap64 (1 + t171)) == 1) = true := beq_iff_eq.mpr c10
      (try (have c10u0_0 : (((1 + t171)) == 1) = true := by have h_ := c10b0; rwa [show wrap64 (1 + t171) = (1 + t171) from by unfold wrap64; omega] at h_))
      have c10b1 : ((wrap64 (1 + t171)) != 1) = false := bne_eq_false_iff_eq.mpr c10
      (try (have c10u1_0 : (((1 + t171)) != 1) = false := by have h_ := c10b1; rwa [show wrap64 (1 + t171) = (1 + t171) from by unfold wrap64; omega] at h_))
      clear c10
      (first | rw [c10b0] | (simp only [i64_w, i32_w]; rw [c10b0]) | skip)
      have H' := Aside0.mk H
      clear H
      have hnb11 := NB172_170.out
      have hnc11 := NB170_172.out
      have hcz12_0 : w7.cell? ⟨gb172, 0, none⟩ = some (.int .i64 0) := (blk_cell BK172.out 0).trans rfl
      have hcz12_1 : w7.cell? ⟨gb172, 1, none⟩ = some (.string (⟨#[]⟩ : ByteArray)) := (blk_cell BK172.out 1).trans rfl
      have hcz12_2 : w7.cell? ⟨gb172, 2, none⟩ = some (.string (⟨#[]⟩ : ByteArray)) := (blk_cell BK172.out 2).trans rfl
      have hfz12_0 := blk_frozen BK172.out 0
      have hfz12_1 := blk_frozen BK172.out 1
      have hfz12_2 := blk_frozen BK172.out 2
      go_wp2
      go_meet
      case rel => exact ⟨_, (true), (by first | rfl | (simp; done) | (simp [*]; done)), H', ⟨by first | omega | exact Nat.le_refl _⟩, ⟨by (with_reducible repeat (first | refine blk_drewN ?_ _ | refine blk_drew ?_ | refine blk_alloc ?_ _)); refine blk_far ?_ NB170_172.out _; (with_reducible repeat (first | refine blk_drewN ?_ _ | refine blk_drew ?_ | refine blk_alloc ?_ _)); refine blk_far ?_ NB170_172.out _; (with_reducible repeat (first | refine blk_drewN ?_ _ | refine blk_drew ?_ | refine blk_alloc ?_ _)); refine blk_far ?_ NB170_172.out _; (with_reducible repeat (first | refine blk_drewN ?_ _ | refine blk_drew ?_ | refine blk_alloc ?_ _)); exact BK170.out⟩, ⟨by (with_reducible repeat (first | refine blk_drewN ?_ _ | refine blk_drew ?_ | refine blk_alloc ?_ _)); refine blk_put (cs := #[.int .i64 (wrap64 (1 + t171)), .string (⟨#[]⟩ : ByteArray), .string (⟨#[]⟩ : ByteArray)]) ?_ 2 _ rfl; (with_reducible repeat (first | refine blk_drewN ?_ _ | refine blk_drew ?_ | refine blk_alloc ?_ _)); refine blk_put (cs := #[.int .i64 (wrap64 (1 + t171)), .string (⟨#[]⟩ : ByteArray), .string (⟨#[]⟩ : ByteArray)]) ?_ 1 _ rfl; (with_reducible repeat (first | refine blk_drewN ?_ _ | refine blk_drew ?_ | refine blk_alloc ?_ _)); refine blk_put (cs := #[.int .i64 0, .string (⟨#[]⟩ : ByteArray), .string (⟨#[]⟩ : ByteArray)]) ?_ 0 _ rfl; (with_reducible repeat (first | refine blk_drewN ?_ _ | refine blk_drew ?_ | refine blk_alloc ?_ _)); exact BK172.out⟩, ⟨by repeat (first | (with_reducible first | exact HB.out | apply below_alloc | apply pw_below_drewN | apply below_drew1 | refine below_set ?_ GE170.out | refine below_set ?_ GE172.out) | exact HB.out)⟩⟩
    · rw [if_neg c10] at H
      have c10b0 : ((wrap64 (1 + t171)) == 1) = false := beq_eq_false_iff_ne.mpr c10
      (try (have c10u0_0 : (((1 + t171)) == 1) = false := by have h_ := c10b0; rwa [show wrap64 (1 + t171) = (1 + t171) from by unfold wrap64; omega] at h_))
      have c10b1 : ((wrap64 (1 + t171)) != 1) = true := bne_iff_ne.mpr c10
      (try (have c10u1_0 : (((1 + t171)) != 1) = true := by have h_ := c10b1; rwa [show wrap64 (1 + t171) = (1 + t171) from by unfold wrap64; omega] at h_))
      (first | rw [c10b0] | (simp only [i64_w, i32_w]; rw [c10b0]) | skip)
      by_cases c13 : (wrap64 (1 + t171)) = 2
      · rw [if_pos c13] at H
        have c13b0 : ((wrap64 (1 + t171)) == 2) = true := beq_iff_eq.mpr c13
        (try (have c13u0_0 : (((1 + t171)) == 2) = true := by have h_ := c13b0; rwa [show wrap64 (1 + t171) = (1 + t171) from by unfold wrap64; omega] at h_))
        have c13b1 : ((wrap64 (1 + t171)) != 2) = false := bne_eq_false_iff_eq.mpr c13
        (try (have c13u1_0 : (((1 + t171)) != 2) = false := by have h_ := c13b1; rwa [show wrap64 (1 + t171) = (1 + t171) from by unfold wrap64; omega] at h_))
        clear c13
        have H' := Aside0.mk H
        clear H
        have hnb14 := NB172_170.out
        have hnc14 := NB170_172.out
        have hcz15_0 : w7.cell? ⟨gb172, 0, none⟩ = some (.int .i64 0) := (blk_cell BK172.out 0).trans rfl
        have hcz15_1 : w7.cell? ⟨gb172, 1, none⟩ = some (.string (⟨#[]⟩ : ByteArray)) := (blk_cell BK172.out 1).trans rfl
        have hcz15_2 : w7.cell? ⟨gb172, 2, none⟩ = some (.string (⟨#[]⟩ : ByteArray)) := (blk_cell BK172.out 2).trans rfl
        have hfz15_0 := blk_frozen BK172.out 0
        have hfz15_1 := blk_frozen BK172.out 1
        have hfz15_2 := blk_frozen BK172.out 2
        go_wp2
        go_meet
        case rel => exact ⟨_, (true), (by first | rfl | (simp; done) | (simp [*]; done)), H', ⟨by first | omega | exact Nat.le_refl _⟩, ⟨by (with_reducible repeat (first | refine blk_drewN ?_ _ | refine blk_drew ?_ | refine blk_alloc ?_ _)); refine blk_far ?_ NB170_172.out _; (with_reducible repeat (first | refine blk_drewN ?_ _ | refine blk_drew ?_ | refine blk_alloc ?_ _)); refine blk_far ?_ NB170_172.out _; (with_reducible repeat (first | refine blk_drewN ?_ _ | refine blk_drew ?_ | refine blk_alloc ?_ _)); refine blk_far ?_ NB170_172.out _; (with_reducible repeat (first | refine blk_drewN ?_ _ | refine blk_drew ?_ | refine blk_alloc ?_ _)); exact BK170.out⟩, ⟨by (with_reducible repeat (first | refine blk_drewN ?_ _ | refine blk_drew ?_ | refine blk_alloc ?_ _)); refine blk_put (cs := #[.int .i64 (wrap64 (1 + t171)), .string (⟨#[]⟩ : ByteArray), .string (⟨#[]⟩ : ByteArray)]) ?_ 2 _ rfl; (with_reducible repeat (first | refine blk_drewN ?_ _ | refine blk_drew ?_ | refine blk_alloc ?_ _)); refine blk_put (cs := #[.int .i64 (wrap64 (1 + t171)), .string (⟨#[]⟩ : ByteArray), .string (⟨#[]⟩ : ByteArray)]) ?_ 1 _ rfl; (with_reducible repeat (first | refine blk_drewN ?_ _ | refine blk_drew ?_ | refine blk_alloc ?_ _)); refine blk_put (cs := #[.int .i64 0, .string (⟨#[]⟩ : ByteArray), .string (⟨#[]⟩ : ByteArray)]) ?_ 0 _ rfl; (with_reducible repeat (first | refine blk_drewN ?_ _ | refine blk_drew ?_ | refine blk_alloc ?_ _)); exact BK172.out⟩, ⟨by repeat (first | (with_reducible first | exact HB.out | apply below_alloc | apply pw_below_drewN | apply below_drew1 | refine below_set ?_ GE170.out | refine below_set ?_ GE172.out) | exact HB.out)⟩⟩
      · rw [if_neg c13] at H
        have c13b0 : ((wrap64 (1 + t171)) == 2) = false := beq_eq_false_iff_ne.mpr c13
        (try (have c13u0_0 : (((1 + t171)) == 2) = false := by have h_ := c13b0; rwa [show wrap64 (1 + t171) = (1 + t171) from by unfold wrap64; omega] at h_))
        have c13b1 : ((wrap64 (1 + t171)) != 2) = true := bne_iff_ne.mpr c13
        (try (have c13u1_0 : (((1 + t171)) != 2) = true := by have h_ := c13b1; rwa [show wrap64 (1 + t171) = (1 + t171) from by unfold wrap64; omega] at h_))
        have H' := Aside0.mk H
        clear H
        have hnb16 := NB172_170.out
        have hnc16 := NB170_172.out
        have hcz17_0 : w7.cell? ⟨gb172, 0, none⟩ = some (.int .i64 0) := (blk_cell BK172.out 0).trans rfl
        have hcz17_1 : w7.cell? ⟨gb172, 1, none⟩ = some (.string (⟨#[]⟩ : ByteArray)) := (blk_cell BK172.out 1).trans rfl
        have hcz17_2 : w7.cell? ⟨gb172, 2, none⟩ = some (.string (⟨#[]⟩ : ByteArray)) := (blk_cell BK172.out 2).trans rfl
        have hfz17_0 := blk_frozen BK172.out 0
        have hfz17_1 := blk_frozen BK172.out 1
        have hfz17_2 := blk_frozen BK172.out 2
        go_wp2
        go_meet
        case rel => exact ⟨_, (((wrap64 (1 + t171)) == 6)), (by first | rfl | (simp; done) | (simp [*]; done)), H', ⟨by first | omega | exact Nat.le_refl _⟩, ⟨by (with_reducible repeat (first | refine blk_drewN ?_ _ | refine blk_drew ?_ | refine blk_alloc ?_ _)); refine blk_far ?_ NB170_172.out _; (with_reducible repeat (first | refine blk_drewN ?_ _ | refine blk_drew ?_ | refine blk_alloc ?_ _)); refine blk_far ?_ NB170_172.out _; (with_reducible repeat (first | refine blk_drewN ?_ _ | refine blk_drew ?_ | refine blk_alloc ?_ _)); refine blk_far ?_ NB170_172.out _; (with_reducible repeat (first | refine blk_drewN ?_ _ | refine blk_drew ?_ | refine blk_alloc ?_ _)); exact BK170.out⟩, ⟨by (with_reducible repeat (first | refine blk_drewN ?_ _ | refine blk_drew ?_ | refine blk_alloc ?_ _)); refine blk_put (cs := #[.int .i64 (wrap64 (1 + t171)), .string (⟨#[]⟩ : ByteArray), .string (⟨#[]⟩ : ByteArray)]) ?_ 2 _ rfl; (with_reducible repeat (first | refine blk_drewN ?_ _ | refine blk_drew ?_ | refine blk_alloc ?_ _)); refine blk_put (cs := #[.int .i64 (wrap64 (1 + t171)), .string (⟨#[]⟩ : ByteArray), .string (⟨#[]⟩ : ByteArray)]) ?_ 1 _ rfl; (with_reducible repeat (first | refine blk_drewN ?_ _ | refine blk_drew ?_ | refine blk_alloc ?_ _)); refine blk_put (cs := #[.int .i64 0, .string (⟨#[]⟩ : ByteArray), .string (⟨#[]⟩ : ByteArray)]) ?_ 0 _ rfl; (with_reducible repeat (first | refine blk_drewN ?_ _ | refine blk_drew ?_ | refine blk_alloc ?_ _)); exact BK172.out⟩, ⟨by repeat (first | (with_reducible first | exact HB.out | apply below_alloc | apply pw_below_drewN | apply below_drew1 | refine below_set ?_ GE170.out | refine below_set ?_ GE172.out) | exact HB.out)⟩⟩
  case rest =>
    clear HC5
    try clear c1
    try clear p2
    try clear p6
    try clear c8
    try clear c10
    try clear c10b0
    try clear c10b1
    try clear c11
    try clear c13
    try clear c13b0
    try clear c13b1
    try clear c14
    try clear c15
    try clear c16
    try clear hcz12_0
    try clear hcz12_1
    try clear hcz12_2
    try clear hcz15_0
    try clear hcz15_1
    try clear hcz15_2
    try clear hcz17_0
    try clear hcz17_1
    try clear hcz17_2
    try clear hcz9_0
    try clear hcz9_1
    try clear hcz9_2
    try clear hfz12_0
    try clear hfz12_1
    try clear hfz12_2
    try clear hfz15_0
    try clear hfz15_1
    try clear hfz15_2
    try clear hfz17_0
    try clear hfz17_1
    try clear hfz17_2
    try clear hfz9_0
    try clear hfz9_1
    try clear hfz9_2
    obtain ⟨kq, x24_4, rfl, HA, HJ4, BK170, BK172, HB⟩ := hcut
    cases kq with
    | zero => exact absurd HA.out (by simp [deadboltlaw15_Make.j0])
    | succ kj4 =>
      have H := HA.out
      clear HA
      simp only [deadboltlaw15_Make.j0] at H
      by_cases c18 : x24_4 = true
      · subst c18
        have H1 : ((some (([(⟨#[97]⟩ : ByteArray), (⟨#[109, 97, 105, 110]⟩ : ByteArray), (⟨#[102]⟩ : ByteArray), (⟨#[97, 98, 99, 100, 101, 102, 103, 104, 105, 106, 107, 108]⟩ : ByteArray), (⟨#[113, 57]⟩ : ByteArray)] : List ByteArray) : List ByteArray)).bind fun y173 => ((deadboltlaw15_within.f a1 5).bind fun t176 => (if 0 ≤ t176 then (if t176 < (y173.length : Int) then (if (wrap64 (1 + t171)) = 1 then (if 0 ≤ (mn (a2.size : Int) 2000) then (if (mn (a2.size : Int) 2000) ≤ (a2.size : Int) then (some ((wrap64 (1 + t171)), rdOf ByteArray.empty y173 t176, a2.extract 0 ((mn (a2.size : Int) 2000) : Int).toNat)) else (none)) else (none)) else (some ((wrap64 (1 + t171)), rdOf ByteArray.empty y173 t176, (⟨#[]⟩ : ByteArray)))) else (none)) else (none)))) = some (r1, r2, r3) := by rw [if_pos rfl] at H; exact H
        clear H
        have H := H1
        clear H1
        obtain ⟨y173, hy173⟩ : ∃ y_ : List ByteArray, y_ = (([(⟨#[97]⟩ : ByteArray), (⟨#[109, 97, 105, 110]⟩ : ByteArray), (⟨#[102]⟩ : ByteArray), (⟨#[97, 98, 99, 100, 101, 102, 103, 104, 105, 106, 107, 108]⟩ : ByteArray), (⟨#[113, 57]⟩ : ByteArray)] : List ByteArray)) := ⟨_, rfl⟩
        replace H : ((deadboltlaw15_within.f a1 5).bind fun t176 => (if 0 ≤ t176 then (if t176 < (y173.length : Int) then (if (wrap64 (1 + t171)) = 1 then (if 0 ≤ (mn (a2.size : Int) 2000) then (if (mn (a2.size : Int) 2000) ≤ (a2.size : Int) then (some ((wrap64 (1 + t171)), rdOf ByteArray.empty y173 t176, a2.extract 0 ((mn (a2.size : Int) 2000) : Int).toNat)) else (none)) else (none)) else (some ((wrap64 (1 + t171)), rdOf ByteArray.empty y173 t176, (⟨#[]⟩ : ByteArray)))) else (none)) else (none))) = some (r1, r2, r3) := by first | (rw [hy173]; with_reducible exact H) | (have H2_ := (Option.bind_some _ _).symm.trans H; rw [hy173]; with_reducible exact H2_) | (have H2_ := (Option.bind_some _ _).symm.trans H; with_reducible exact H2_) | with_reducible exact H | (rw [hy173]; exact H) | exact H
        have Ny173 := Aside0.mk hy173
        clear hy173
        replace H := Option.bind_eq_some_iff.mp H
        obtain ⟨t176, A190, H⟩ := H
        replace H : (if 0 ≤ t176 then (if t176 < (y173.length : Int) then (if (wrap64 (1 + t171)) = 1 then (if 0 ≤ (mn (a2.size : Int) 2000) then (if (mn (a2.size : Int) 2000) ≤ (a2.size : Int) then (some ((wrap64 (1 + t171)), rdOf ByteArray.empty y173 t176, a2.extract 0 ((mn (a2.size : Int) 2000) : Int).toNat)) else (none)) else (none)) else (some ((wrap64 (1 + t171)), rdOf ByteArray.empty y173 t176, (⟨#[]⟩ : ByteArray)))) else (none)) else (none)) = some (r1, r2, r3) := H
        have A19 := Aside0.mk A190
        clear A190
        by_cases c20 : 0 ≤ t176
        · rw [if_pos c20] at H
          have c20b0 : decide (0 ≤ t176) = true := decide_eq_true c20
          clear c20
          by_cases c21 : t176 < (y173.length : Int)
          · rw [if_pos c21] at H
            have c21b0 : decide (t176 < (y173.length : Int)) = true := decide_eq_true c21
            clear c21
            by_cases c22 : (wrap64 (1 + t171)) = 1
            · rw [if_pos c22] at H
              have c22b0 : ((wrap64 (1 + t171)) == 1) = true := beq_iff_eq.mpr c22
              (try (have c22u0_0 : (((1 + t171)) == 1) = true := by have h_ := c22b0; rwa [show wrap64 (1 + t171) = (1 + t171) from by unfold wrap64; omega] at h_))
              have c22b1 : ((wrap64 (1 + t171)) != 1) = false := bne_eq_false_iff_eq.mpr c22
              (try (have c22u1_0 : (((1 + t171)) != 1) = false := by have h_ := c22b1; rwa [show wrap64 (1 + t171) = (1 + t171) from by unfold wrap64; omega] at h_))
              clear c22
              obtain ⟨ji23, hji23⟩ : ∃ j_ : Int, (mn (a2.size : Int) 2000) = j_ := ⟨_, rfl⟩
              replace H : (if 0 ≤ (ji23) then (if (ji23) ≤ (a2.size : Int) then (some ((wrap64 (1 + t171)), rdOf ByteArray.empty y173 t176, a2.extract 0 ((ji23) : Int).toNat)) else (none)) else (none)) = some (r1, r2, r3) := by first | (rw [hji23] at H; exact H) | (simp only [hji23] at H ⊢; exact H)
              (try rw [hji23] at A19)
              have hji23_ : (if 2000 < (a2.size : Int) then 2000 else (a2.size : Int)) = ji23 := hji23
              by_cases c24 : 0 ≤ (ji23)
              · rw [if_pos c24] at H
                have c24b0 := eq_true c24
                have c24b1 : decide (0 ≤ (ji23)) = true := decide_eq_true c24
                clear c24
                by_cases c25 : (ji23) ≤ (a2.size : Int)
                · rw [if_pos c25] at H
                  have c25b0 := eq_true c25
                  have c25b1 : decide ((ji23) ≤ (a2.size : Int)) = true := decide_eq_true c25
                  clear c25
                  simp only [Option.some.injEq, Prod.mk.injEq] at H
                  obtain ⟨rfl, rfl, rfl⟩ := H
                  go_wp2_with (first | ((with_reducible refine gate_dst (N := 25) rfl ?_); refine Kd.R_lit Kd.string _ 9 ?hg (N := 25) ?hd (xs := ([(⟨#[97]⟩ : ByteArray), (⟨#[109, 97, 105, 110]⟩ : ByteArray), (⟨#[102]⟩ : ByteArray), (⟨#[97, 98, 99, 100, 101, 102, 103, 104, 105, 106, 107, 108]⟩ : ByteArray), (⟨#[113, 57]⟩ : ByteArray)] : List ByteArray)) (inner := [.string (⟨#[97]⟩ : ByteArray), .string (⟨#[109, 97, 105, 110]⟩ : ByteArray), .string (⟨#[102]⟩ : ByteArray), .string (⟨#[97, 98, 99, 100, 101, 102, 103, 104, 105, 106, 107, 108]⟩ : ByteArray), .string (⟨#[113, 57]⟩ : ByteArray)]) (ok := fun _ => True) (okp := fun _ => True) ?hr ?hp (fun _ hk => hk) trivial (Below.refl _ _) (Nat.le_refl _) (by simp) ?_; (case hd => rfl); (case hg => rfl); (case hr => first | (go_simp; done) | (go_simp; rfl)); (case hp => exact (Reps.one (show Kd.M Kd.string _ _ _ (⟨#[97]⟩ : ByteArray) [.string (⟨#[97]⟩ : ByteArray)] from rfl) (Reps.one (show Kd.M Kd.string _ _ _ (⟨#[109, 97, 105, 110]⟩ : ByteArray) [.string (⟨#[109, 97, 105, 110]⟩ : ByteArray)] from rfl) (Reps.one (show Kd.M Kd.string _ _ _ (⟨#[102]⟩ : ByteArray) [.string (⟨#[102]⟩ : ByteArray)] from rfl) (Reps.one (show Kd.M Kd.string _ _ _ (⟨#[97, 98, 99, 100, 101, 102, 103, 104, 105, 106, 107, 108]⟩ : ByteArray) [.string (⟨#[97, 98, 99, 100, 101, 102, 103, 104, 105, 106, 107, 108]⟩ : ByteArray)] from rfl) (Reps.one (show Kd.M Kd.string _ _ _ (⟨#[113, 57]⟩ : ByteArray) [.string (⟨#[113, 57]⟩ : ByteArray)] from rfl) (Reps.none _ _))))))); intro v174 w26 ho27 hb hg_ hnew_; clear hg_ hnew_; (first | rw [← Ny173.out] at ho27 | (simp only [Int.reduceToNat] at ho27; rw [← Ny173.out] at ho27)); have n0_ := Aside0.mk (Kd.R_lower ho27 (below_size (by repeat (first | (with_reducible first | exact HB.out | apply below_alloc | apply pw_below_drewN | apply below_drew1 | refine below_set ?_ GE170.out | refine below_set ?_ GE172.out) | exact HB.out)))); have n1_ := Aside0.mk (blk_below (g := gb170) (o := .cells #[.int .i64 0, .string (⟨#[]⟩ : ByteArray), .string (⟨#[]⟩ : ByteArray)] 25 (0, 0)) (by (with_reducible repeat (first | refine blk_drewN ?_ _ | refine blk_drew ?_ | refine blk_alloc ?_ _)); exact BK170.out) hb); have n2_ := Aside0.mk (blk_below (g := gb172) (o := .cells #[.int .i64 (wrap64 (1 + t171)), .string (⟨#[]⟩ : ByteArray), .string (⟨#[]⟩ : ByteArray)] 25 (0, 0)) (by (with_reducible repeat (first | refine blk_drewN ?_ _ | refine blk_drew ?_ | refine blk_alloc ?_ _)); exact BK172.out) hb); have n3_ := Aside0.mk (below_step (by repeat (first | (with_reducible first | exact HB.out | apply below_alloc | apply pw_below_drewN | apply below_drew1 | refine below_set ?_ GE170.out | refine below_set ?_ GE172.out) | exact HB.out)) hb); clear BK170; clear BK172; clear HB; have HO175 := n0_; have BK170 := n1_; have BK172 := n2_; have HB := n3_; clear n0_ n1_ n2_ n3_; clear hb ho27) | ((with_reducible refine gate_callee (f := 15) rfl ?_); refine goesL_ (some 27) rfl rfl Tryd.func15 (by kernel_rfl) rfl #[.int .i64 a1, .int .i64 5] rfl (by (try simp only [List.map_toArray, List.map_cons, List.map_nil]); first | done | rfl | (simp only [List.length_drop, List.length_take]; rfl)) ?_; (with_reducible refine (deadboltlaw15_within.calls a1 5 t176 _ A19.out).mono ?_); rintro e w' ⟨rfl, ⟨nd, rfl⟩⟩; refine ⟨_, rfl, ?_⟩; (try (rw [drewN_self w26]; generalize hq_ : World.drewN w26 _ = w26; have n0_ : Aside0 (Kd.R Kd.string 9 w26 w.heap.size (fun _ => True) v174 y173) := ⟨by rw [← hq_]; exact (by (with_reducible repeat (first | apply Kd.R_alloc | apply Kd.R_drewN | apply Kd.R_drew)); exact HO175.out)⟩; have n1_ : Aside0 (w26.heap[gb170]? = some (.cells #[.int .i64 0, .string (⟨#[]⟩ : ByteArray), .string (⟨#[]⟩ : ByteArray)] 25 (0, 0))) := ⟨by rw [← hq_]; exact (by (with_reducible repeat (first | refine blk_drewN ?_ _ | refine blk_drew ?_ | refine blk_alloc ?_ _)); exact BK170.out)⟩; have n2_ : Aside0 (w26.heap[gb172]? = some (.cells #[.int .i64 (wrap64 (1 + t171)), .string (⟨#[]⟩ : ByteArray), .string (⟨#[]⟩ : ByteArray)] 25 (0, 0))) := ⟨by rw [← hq_]; exact (by (with_reducible repeat (first | refine blk_drewN ?_ _ | refine blk_drew ?_ | refine blk_alloc ?_ _)); exact BK172.out)⟩; have n3_ : Aside0 (Below w.heap.size w w26) := ⟨by rw [← hq_]; exact (by repeat (first | (with_reducible first | exact HB.out | apply below_alloc | apply pw_below_drewN | apply below_drew1 | refine below_set ?_ GE170.out | refine below_set ?_ GE172.out) | exact HB.out))⟩; clear HO175 BK170 BK172 HB hq_; have HO175 := n0_; have BK170 := n1_; have BK172 := n2_; have HB := n3_; clear n0_ n1_ n2_ n3_)); obtain ⟨Ao28, co28, eo28⟩ := Kd.R_slice HO175.out; subst eo28; have p177 : 0 ≤ (t176 : Int) := of_decide_eq_true (by first | (with_reducible assumption) | assumption); have q177 : t176 < (y173.length : Int) := of_decide_eq_true (by first | (with_reducible assumption) | assumption); obtain ⟨ad177, e177, hx177_0⟩ := Kd.at_string (Kd.R_reads' HO175.out).2.2 t176 p177 q177; cases e177; replace p177 := eq_true p177; replace q177 := eq_true q177; have hnb29 := NB172_170.out; have hnc29 := NB170_172.out; have hcz30_0 : w26.cell? ⟨gb172, 0, none⟩ = some (.int .i64 (wrap64 (1 + t171))) := (blk_cell BK172.out 0).trans rfl; have hcz30_1 : w26.cell? ⟨gb172, 1, none⟩ = some (.string (⟨#[]⟩ : ByteArray)) := (blk_cell BK172.out 1).trans rfl; have hcz30_2 : w26.cell? ⟨gb172, 2, none⟩ = some (.string (⟨#[]⟩ : ByteArray)) := (blk_cell BK172.out 2).trans rfl; have hfz30_0 := blk_frozen BK172.out 0; have hfz30_1 := blk_frozen BK172.out 1; have hfz30_2 := blk_frozen BK172.out 2; have hcz31_0 : w26.cell? ⟨gb170, 0, none⟩ = some (.int .i64 0) := (blk_cell BK170.out 0).trans rfl; have hcz31_1 : w26.cell? ⟨gb170, 1, none⟩ = some (.string (⟨#[]⟩ : ByteArray)) := (blk_cell BK170.out 1).trans rfl; have hcz31_2 : w26.cell? ⟨gb170, 2, none⟩ = some (.string (⟨#[]⟩ : ByteArray)) := (blk_cell BK170.out 2).trans rfl; have hfz31_0 := blk_frozen BK170.out 0; have hfz31_1 := blk_frozen BK170.out 1; have hfz31_2 := blk_frozen BK170.out 2))
                  refine bodyPost_ret (results_cell_row rfl _ _ gb170 25 #[.int .i64 (wrap64 (1 + t171)), .string (rdOf ByteArray.empty y173 t176), .string (a2.extract 0 ((ji23) : Int).toNat)] (0, 0) _ rfl (by (with_reducible repeat (first | refine blk_drewN ?_ _ | refine blk_drew ?_ | refine blk_alloc ?_ _)); refine blk_put (cs := #[.int .i64 (wrap64 (1 + t171)), .string (rdOf ByteArray.empty y173 t176), .string (⟨#[]⟩ : ByteArray)]) ?_ 2 _ rfl; (with_reducible repeat (first | refine blk_drewN ?_ _ | refine blk_drew ?_ | refine blk_alloc ?_ _)); refine blk_put (cs := #[.int .i64 (wrap64 (1 + t171)), .string (⟨#[]⟩ : ByteArray), .string (⟨#[]⟩ : ByteArray)]) ?_ 1 _ rfl; (with_reducible repeat (first | refine blk_drewN ?_ _ | refine blk_drew ?_ | refine blk_alloc ?_ _)); refine blk_put (cs := #[.int .i64 0, .string (⟨#[]⟩ : ByteArray), .string (⟨#[]⟩ : ByteArray)]) ?_ 0 _ rfl; (with_reducible repeat (first | refine blk_drewN ?_ _ | refine blk_drew ?_ | refine blk_alloc ?_ _)); refine blk_far ?_ NB170_172.out _; (with_reducible repeat (first | refine blk_drewN ?_ _ | refine blk_drew ?_ | refine blk_alloc ?_ _)); refine blk_far ?_ NB170_172.out _; (with_reducible repeat (first | refine blk_drewN ?_ _ | refine blk_drew ?_ | refine blk_alloc ?_ _)); exact BK170.out) Tryd.underlying25 rfl (by kernel_rfl)) rfl ?_
                  exact ⟨by first | rfl | (simp [errW_none, errW_some] <;> rfl) | (simp only [← hji23]; first | rfl | (simp [errW_none, errW_some] <;> rfl)) | (simp [*, errW_none, errW_some] <;> rfl), by repeat (first | (with_reducible first | exact HB.out | apply below_alloc | apply pw_below_drewN | apply below_drew1 | refine below_set ?_ GE170.out | refine below_set ?_ GE172.out) | exact HB.out)⟩
                · rw [if_neg c25] at H
                  exact absurd H (by simp)
              · rw [if_neg c24] at H
                exact absurd H (by simp)
            · rw [if_neg c22] at H
              have c22b0 : ((wrap64 (1 + t171)) == 1) = false := beq_eq_false_iff_ne.mpr c22
              (try (have c22u0_0 : (((1 + t171)) == 1) = false := by have h_ := c22b0; rwa [show wrap64 (1 + t171) = (1 + t171) from by unfold wrap64; omega] at h_))
              have c22b1 : ((wrap64 (1 + t171)) != 1) = true := bne_iff_ne.mpr c22
              (try (have c22u1_0 : (((1 + t171)) != 1) = true := by have h_ := c22b1; rwa [show wrap64 (1 + t171) = (1 + t171) from by unfold wrap64; omega] at h_))
              simp only [Option.some.injEq, Prod.mk.injEq] at H
              obtain ⟨rfl, rfl, rfl⟩ := H
              go_wp2_with (first | ((with_reducible refine gate_dst (N := 25) rfl ?_); refine Kd.R_lit Kd.string _ 9 ?hg (N := 25) ?hd (xs := ([(⟨#[97]⟩ : ByteArray), (⟨#[109, 97, 105, 110]⟩ : ByteArray), (⟨#[102]⟩ : ByteArray), (⟨#[97, 98, 99, 100, 101, 102, 103, 104, 105, 106, 107, 108]⟩ : ByteArray), (⟨#[113, 57]⟩ : ByteArray)] : List ByteArray)) (inner := [.string (⟨#[97]⟩ : ByteArray), .string (⟨#[109, 97, 105, 110]⟩ : ByteArray), .string (⟨#[102]⟩ : ByteArray), .string (⟨#[97, 98, 99, 100, 101, 102, 103, 104, 105, 106, 107, 108]⟩ : ByteArray), .string (⟨#[113, 57]⟩ : ByteArray)]) (ok := fun _ => True) (okp := fun _ => True) ?hr ?hp (fun _ hk => hk) trivial (Below.refl _ _) (Nat.le_refl _) (by simp) ?_; (case hd => rfl); (case hg => rfl); (case hr => first | (go_simp; done) | (go_simp; rfl)); (case hp => exact (Reps.one (show Kd.M Kd.string _ _ _ (⟨#[97]⟩ : ByteArray) [.string (⟨#[97]⟩ : ByteArray)] from rfl) (Reps.one (show Kd.M Kd.string _ _ _ (⟨#[109, 97, 105, 110]⟩ : ByteArray) [.string (⟨#[109, 97, 105, 110]⟩ : ByteArray)] from rfl) (Reps.one (show Kd.M Kd.string _ _ _ (⟨#[102]⟩ : ByteArray) [.string (⟨#[102]⟩ : ByteArray)] from rfl) (Reps.one (show Kd.M Kd.string _ _ _ (⟨#[97, 98, 99, 100, 101, 102, 103, 104, 105, 106, 107, 108]⟩ : ByteArray) [.string (⟨#[97, 98, 99, 100, 101, 102, 103, 104, 105, 106, 107, 108]⟩ : ByteArray)] from rfl) (Reps.one (show Kd.M Kd.string _ _ _ (⟨#[113, 57]⟩ : ByteArray) [.string (⟨#[113, 57]⟩ : ByteArray)] from rfl) (Reps.none _ _))))))); intro v174 w32 ho33 hb hg_ hnew_; clear hg_ hnew_; (first | rw [← Ny173.out] at ho33 | (simp only [Int.reduceToNat] at ho33; rw [← Ny173.out] at ho33)); have n0_ := Aside0.mk (Kd.R_lower ho33 (below_size (by repeat (first | (with_reducible first | exact HB.out | apply below_alloc | apply pw_below_drewN | apply below_drew1 | refine below_set ?_ GE170.out | refine below_set ?_ GE172.out) | exact HB.out)))); have n1_ := Aside0.mk (blk_below (g := gb170) (o := .cells #[.int .i64 0, .string (⟨#[]⟩ : ByteArray), .string (⟨#[]⟩ : ByteArray)] 25 (0, 0)) (by (with_reducible repeat (first | refine blk_drewN ?_ _ | refine blk_drew ?_ | refine blk_alloc ?_ _)); exact BK170.out) hb); have n2_ := Aside0.mk (blk_below (g := gb172) (o := .cells #[.int .i64 (wrap64 (1 + t171)), .string (⟨#[]⟩ : ByteArray), .string (⟨#[]⟩ : ByteArray)] 25 (0, 0)) (by (with_reducible repeat (first | refine blk_drewN ?_ _ | refine blk_drew ?_ | refine blk_alloc ?_ _)); exact BK172.out) hb); have n3_ := Aside0.mk (below_step (by repeat (first | (with_reducible first | exact HB.out | apply below_alloc | apply pw_below_drewN | apply below_drew1 | refine below_set ?_ GE170.out | refine below_set ?_ GE172.out) | exact HB.out)) hb); clear BK170; clear BK172; clear HB; have HO175 := n0_; have BK170 := n1_; have BK172 := n2_; have HB := n3_; clear n0_ n1_ n2_ n3_; clear hb ho33) | ((with_reducible refine gate_callee (f := 15) rfl ?_); refine goesL_ (some 27) rfl rfl Tryd.func15 (by kernel_rfl) rfl #[.int .i64 a1, .int .i64 5] rfl (by (try simp only [List.map_toArray, List.map_cons, List.map_nil]); first | done | rfl | (simp only [List.length_drop, List.length_take]; rfl)) ?_; (with_reducible refine (deadboltlaw15_within.calls a1 5 t176 _ A19.out).mono ?_); rintro e w' ⟨rfl, ⟨nd, rfl⟩⟩; refine ⟨_, rfl, ?_⟩; (try (rw [drewN_self w32]; generalize hq_ : World.drewN w32 _ = w32; have n0_ : Aside0 (Kd.R Kd.string 9 w32 w.heap.size (fun _ => True) v174 y173) := ⟨by rw [← hq_]; exact (by (with_reducible repeat (first | apply Kd.R_alloc | apply Kd.R_drewN | apply Kd.R_drew)); exact HO175.out)⟩; have n1_ : Aside0 (w32.heap[gb170]? = some (.cells #[.int .i64 0, .string (⟨#[]⟩ : ByteArray), .string (⟨#[]⟩ : ByteArray)] 25 (0, 0))) := ⟨by rw [← hq_]; exact (by (with_reducible repeat (first | refine blk_drewN ?_ _ | refine blk_drew ?_ | refine blk_alloc ?_ _)); exact BK170.out)⟩; have n2_ : Aside0 (w32.heap[gb172]? = some (.cells #[.int .i64 (wrap64 (1 + t171)), .string (⟨#[]⟩ : ByteArray), .string (⟨#[]⟩ : ByteArray)] 25 (0, 0))) := ⟨by rw [← hq_]; exact (by (with_reducible repeat (first | refine blk_drewN ?_ _ | refine blk_drew ?_ | refine blk_alloc ?_ _)); exact BK172.out)⟩; have n3_ : Aside0 (Below w.heap.size w w32) := ⟨by rw [← hq_]; exact (by repeat (first | (with_reducible first | exact HB.out | apply below_alloc | apply pw_below_drewN | apply below_drew1 | refine below_set ?_ GE170.out | refine below_set ?_ GE172.out) | exact HB.out))⟩; clear HO175 BK170 BK172 HB hq_; have HO175 := n0_; have BK170 := n1_; have BK172 := n2_; have HB := n3_; clear n0_ n1_ n2_ n3_)); obtain ⟨Ao34, co34, eo34⟩ := Kd.R_slice HO175.out; subst eo34; have p177 : 0 ≤ (t176 : Int) := of_decide_eq_true (by first | (with_reducible assumption) | assumption); have q177 : t176 < (y173.length : Int) := of_decide_eq_true (by first | (with_reducible assumption) | assumption); obtain ⟨ad177, e177, hx177_0⟩ := Kd.at_string (Kd.R_reads' HO175.out).2.2 t176 p177 q177; cases e177; replace p177 := eq_true p177; replace q177 := eq_true q177; have hnb35 := NB172_170.out; have hnc35 := NB170_172.out; have hcz36_0 : w32.cell? ⟨gb172, 0, none⟩ = some (.int .i64 (wrap64 (1 + t171))) := (blk_cell BK172.out 0).trans rfl; have hcz36_1 : w32.cell? ⟨gb172, 1, none⟩ = some (.string (⟨#[]⟩ : ByteArray)) := (blk_cell BK172.out 1).trans rfl; have hcz36_2 : w32.cell? ⟨gb172, 2, none⟩ = some (.string (⟨#[]⟩ : ByteArray)) := (blk_cell BK172.out 2).trans rfl; have hfz36_0 := blk_frozen BK172.out 0; have hfz36_1 := blk_frozen BK172.out 1; have hfz36_2 := blk_frozen BK172.out 2; have hcz37_0 : w32.cell? ⟨gb170, 0, none⟩ = some (.int .i64 0) := (blk_cell BK170.out 0).trans rfl; have hcz37_1 : w32.cell? ⟨gb170, 1, none⟩ = some (.string (⟨#[]⟩ : ByteArray)) := (blk_cell BK170.out 1).trans rfl; have hcz37_2 : w32.cell? ⟨gb170, 2, none⟩ = some (.string (⟨#[]⟩ : ByteArray)) := (blk_cell BK170.out 2).trans rfl; have hfz37_0 := blk_frozen BK170.out 0; have hfz37_1 := blk_frozen BK170.out 1; have hfz37_2 := blk_frozen BK170.out 2))
              refine bodyPost_ret (results_cell_row rfl _ _ gb170 25 #[.int .i64 (wrap64 (1 + t171)), .string (rdOf ByteArray.empty y173 t176), .string (⟨#[]⟩ : ByteArray)] (0, 0) _ rfl (by (with_reducible repeat (first | refine blk_drewN ?_ _ | refine blk_drew ?_ | refine blk_alloc ?_ _)); refine blk_put (cs := #[.int .i64 (wrap64 (1 + t171)), .string (rdOf ByteArray.empty y173 t176), .string (⟨#[]⟩ : ByteArray)]) ?_ 2 _ rfl; (with_reducible repeat (first | refine blk_drewN ?_ _ | refine blk_drew ?_ | refine blk_alloc ?_ _)); refine blk_put (cs := #[.int .i64 (wrap64 (1 + t171)), .string (⟨#[]⟩ : ByteArray), .string (⟨#[]⟩ : ByteArray)]) ?_ 1 _ rfl; (with_reducible repeat (first | refine blk_drewN ?_ _ | refine blk_drew ?_ | refine blk_alloc ?_ _)); refine blk_put (cs := #[.int .i64 0, .string (⟨#[]⟩ : ByteArray), .string (⟨#[]⟩ : ByteArray)]) ?_ 0 _ rfl; (with_reducible repeat (first | refine blk_drewN ?_ _ | refine blk_drew ?_ | refine blk_alloc ?_ _)); refine blk_far ?_ NB170_172.out _; (with_reducible repeat (first | refine blk_drewN ?_ _ | refine blk_drew ?_ | refine blk_alloc ?_ _)); exact BK170.out) Tryd.underlying25 rfl (by kernel_rfl)) rfl ?_
              exact ⟨by first | rfl | (simp [errW_none, errW_some] <;> rfl) | (simp [*, errW_none, errW_some] <;> rfl), by repeat (first | (with_reducible first | exact HB.out | apply below_alloc | apply pw_below_drewN | apply below_drew1 | refine below_set ?_ GE170.out | refine below_set ?_ GE172.out) | exact HB.out)⟩
          · rw [if_neg c21] at H
            exact absurd H (by simp)
        · rw [if_neg c20] at H
          exact absurd H (by simp)
      · replace c18 := Bool.eq_false_iff.mpr c18
        subst c18
        have H1 : (if (wrap64 (1 + t171)) = 1 then (if 0 ≤ (mn (a2.size : Int) 2000) then (if (mn (a2.size : Int) 2000) ≤ (a2.size : Int) then (some ((wrap64 (1 + t171)), (⟨#[]⟩ : ByteArray), a2.extract 0 ((mn (a2.size : Int) 2000) : Int).toNat)) else (none)) else (none)) else (some ((wrap64 (1 + t171)), (⟨#[]⟩ : ByteArray), (⟨#[]⟩ : ByteArray)))) = some (r1, r2, r3) := by rw [if_neg (show ¬ (false = true) by decide)] at H; exact H
        clear H
        have H := H1
        clear H1
        by_cases c38 : (wrap64 (1 + t171)) = 1
        · rw [if_pos c38] at H
          have c38b0 : ((wrap64 (1 + t171)) == 1) = true := beq_iff_eq.mpr c38
          (try (have c38u0_0 : (((1 + t171)) == 1) = true := by have h_ := c38b0; rwa [show wrap64 (1 + t171) = (1 + t171) from by unfold wrap64; omega] at h_))
          have c38b1 : ((wrap64 (1 + t171)) != 1) = false := bne_eq_false_iff_eq.mpr c38
          (try (have c38u1_0 : (((1 + t171)) != 1) = false := by have h_ := c38b1; rwa [show wrap64 (1 + t171) = (1 + t171) from by unfold wrap64; omega] at h_))
          clear c38
          obtain ⟨ji39, hji39⟩ : ∃ j_ : Int, (mn (a2.size : Int) 2000) = j_ := ⟨_, rfl⟩
          replace H : (if 0 ≤ (ji39) then (if (ji39) ≤ (a2.size : Int) then (some ((wrap64 (1 + t171)), (⟨#[]⟩ : ByteArray), a2.extract 0 ((ji39) : Int).toNat)) else (none)) else (none)) = some (r1, r2, r3) := by first | (rw [hji39] at H; exact H) | (simp only [hji39] at H ⊢; exact H)
          have hji39_ : (if 2000 < (a2.size : Int) then 2000 else (a2.size : Int)) = ji39 := hji39
          by_cases c40 : 0 ≤ (ji39)
          · rw [if_pos c40] at H
            have c40b0 := eq_true c40
            have c40b1 : decide (0 ≤ (ji39)) = true := decide_eq_true c40
            clear c40
            by_cases c41 : (ji39) ≤ (a2.size : Int)
            · rw [if_pos c41] at H
              have c41b0 := eq_true c41
              have c41b1 : decide ((ji39) ≤ (a2.size : Int)) = true := decide_eq_true c41
              clear c41
              simp only [Option.some.injEq, Prod.mk.injEq] at H
              obtain ⟨rfl, rfl, rfl⟩ := H
              have hnb42 := NB172_170.out
              have hnc42 := NB170_172.out
              have hcz43_0 : wc.cell? ⟨gb172, 0, none⟩ = some (.int .i64 (wrap64 (1 + t171))) := (blk_cell BK172.out 0).trans rfl
              have hcz43_1 : wc.cell? ⟨gb172, 1, none⟩ = some (.string (⟨#[]⟩ : ByteArray)) := (blk_cell BK172.out 1).trans rfl
              have hcz43_2 : wc.cell? ⟨gb172, 2, none⟩ = some (.string (⟨#[]⟩ : ByteArray)) := (blk_cell BK172.out 2).trans rfl
              have hfz43_0 := blk_frozen BK172.out 0
              have hfz43_1 := blk_frozen BK172.out 1
              have hfz43_2 := blk_frozen BK172.out 2
              have hcz44_0 : wc.cell? ⟨gb170, 0, none⟩ = some (.int .i64 0) := (blk_cell BK170.out 0).trans rfl
              have hcz44_1 : wc.cell? ⟨gb170, 1, none⟩ = some (.string (⟨#[]⟩ : ByteArray)) := (blk_cell BK170.out 1).trans rfl
              have hcz44_2 : wc.cell? ⟨gb170, 2, none⟩ = some (.string (⟨#[]⟩ : ByteArray)) := (blk_cell BK170.out 2).trans rfl
              have hfz44_0 := blk_frozen BK170.out 0
              have hfz44_1 := blk_frozen BK170.out 1
              have hfz44_2 := blk_frozen BK170.out 2
              go_wp2
              refine bodyPost_ret (results_cell_row rfl _ _ gb170 25 #[.int .i64 (wrap64 (1 + t171)), .string (⟨#[]⟩ : ByteArray), .string (a2.extract 0 ((ji39) : Int).toNat)] (0, 0) _ rfl (by (with_reducible repeat (first | refine blk_drewN ?_ _ | refine blk_drew ?_ | refine blk_alloc ?_ _)); refine blk_put (cs := #[.int .i64 (wrap64 (1 + t171)), .string (⟨#[]⟩ : ByteArray), .string (⟨#[]⟩ : ByteArray)]) ?_ 2 _ rfl; (with_reducible repeat (first | refine blk_drewN ?_ _ | refine blk_drew ?_ | refine blk_alloc ?_ _)); refine blk_put (cs := #[.int .i64 (wrap64 (1 + t171)), .string (⟨#[]⟩ : ByteArray), .string (⟨#[]⟩ : ByteArray)]) ?_ 1 _ rfl; (with_reducible repeat (first | refine blk_drewN ?_ _ | refine blk_drew ?_ | refine blk_alloc ?_ _)); refine blk_put (cs := #[.int .i64 0, .string (⟨#[]⟩ : ByteArray), .string (⟨#[]⟩ : ByteArray)]) ?_ 0 _ rfl; (with_reducible repeat (first | refine blk_drewN ?_ _ | refine blk_drew ?_ | refine blk_alloc ?_ _)); refine blk_far ?_ NB170_172.out _; (with_reducible repeat (first | refine blk_drewN ?_ _ | refine blk_drew ?_ | refine blk_alloc ?_ _)); exact BK170.out) Tryd.underlying25 rfl (by kernel_rfl)) rfl ?_
              exact ⟨by first | rfl | (simp [errW_none, errW_some] <;> rfl) | (simp only [← hji39]; first | rfl | (simp [errW_none, errW_some] <;> rfl)) | (simp [*, errW_none, errW_some] <;> rfl), by repeat (first | (with_reducible first | exact HB.out | apply below_alloc | apply pw_below_drewN | apply below_drew1 | refine below_set ?_ GE170.out | refine below_set ?_ GE172.out) | exact HB.out)⟩
            · rw [if_neg c41] at H
              exact absurd H (by simp)
          · rw [if_neg c40] at H
            exact absurd H (by simp)
        · rw [if_neg c38] at H
          have c38b0 : ((wrap64 (1 + t171)) == 1) = false := beq_eq_false_iff_ne.mpr c38
          (try (have c38u0_0 : (((1 + t171)) == 1) = false := by have h_ := c38b0; rwa [show wrap64 (1 + t171) = (1 + t171) from by unfold wrap64; omega] at h_))
          have c38b1 : ((wrap64 (1 + t171)) != 1) = true := bne_iff_ne.mpr c38
          (try (have c38u1_0 : (((1 + t171)) != 1) = true := by have h_ := c38b1; rwa [show wrap64 (1 + t171) = (1 + t171) from by unfold wrap64; omega] at h_))
          simp only [Option.some.injEq, Prod.mk.injEq] at H
          obtain ⟨rfl, rfl, rfl⟩ := H
          have hnb45 := NB172_170.out
          have hnc45 := NB170_172.out
          have hcz46_0 : wc.cell? ⟨gb172, 0, none⟩ = some (.int .i64 (wrap64 (1 + t171))) := (blk_cell BK172.out 0).trans rfl
          have hcz46_1 : wc.cell? ⟨gb172, 1, none⟩ = some (.string (⟨#[]⟩ : ByteArray)) := (blk_cell BK172.out 1).trans rfl
          have hcz46_2 : wc.cell? ⟨gb172, 2, none⟩ = some (.string (⟨#[]⟩ : ByteArray)) := (blk_cell BK172.out 2).trans rfl
          have hfz46_0 := blk_frozen BK172.out 0
          have hfz46_1 := blk_frozen BK172.out 1
          have hfz46_2 := blk_frozen BK172.out 2
          have hcz47_0 : wc.cell? ⟨gb170, 0, none⟩ = some (.int .i64 0) := (blk_cell BK170.out 0).trans rfl
          have hcz47_1 : wc.cell? ⟨gb170, 1, none⟩ = some (.string (⟨#[]⟩ : ByteArray)) := (blk_cell BK170.out 1).trans rfl
          have hcz47_2 : wc.cell? ⟨gb170, 2, none⟩ = some (.string (⟨#[]⟩ : ByteArray)) := (blk_cell BK170.out 2).trans rfl
          have hfz47_0 := blk_frozen BK170.out 0
          have hfz47_1 := blk_frozen BK170.out 1
          have hfz47_2 := blk_frozen BK170.out 2
          go_wp2
          refine bodyPost_ret (results_cell_row rfl _ _ gb170 25 #[.int .i64 (wrap64 (1 + t171)), .string (⟨#[]⟩ : ByteArray), .string (⟨#[]⟩ : ByteArray)] (0, 0) _ rfl (by (with_reducible repeat (first | refine blk_drewN ?_ _ | refine blk_drew ?_ | refine blk_alloc ?_ _)); refine blk_put (cs := #[.int .i64 (wrap64 (1 + t171)), .string (⟨#[]⟩ : ByteArray), .string (⟨#[]⟩ : ByteArray)]) ?_ 2 _ rfl; (with_reducible repeat (first | refine blk_drewN ?_ _ | refine blk_drew ?_ | refine blk_alloc ?_ _)); refine blk_put (cs := #[.int .i64 (wrap64 (1 + t171)), .string (⟨#[]⟩ : ByteArray), .string (⟨#[]⟩ : ByteArray)]) ?_ 1 _ rfl; (with_reducible repeat (first | refine blk_drewN ?_ _ | refine blk_drew ?_ | refine blk_alloc ?_ _)); refine blk_put (cs := #[.int .i64 0, .string (⟨#[]⟩ : ByteArray), .string (⟨#[]⟩ : ByteArray)]) ?_ 0 _ rfl; (with_reducible repeat (first | refine blk_drewN ?_ _ | refine blk_drew ?_ | refine blk_alloc ?_ _)); exact BK170.out) Tryd.underlying25 rfl (by kernel_rfl)) rfl ?_
          exact ⟨by first | rfl | (simp [errW_none, errW_some] <;> rfl) | (simp [*, errW_none, errW_some] <;> rfl), by repeat (first | (with_reducible first | exact HB.out | apply below_alloc | apply pw_below_drewN | apply below_drew1 | refine below_set ?_ GE170.out | refine below_set ?_ GE172.out) | exact HB.out)⟩

/-! ### deadboltlaw5_within: function 20 -/
def deadboltlaw5_within.f (a0 : Int) (a1 : Int) : Option (Int) := if a1 = 0 then (none) else (if (Int.tmod a0 a1) < 0 then (some (wrap64 ((Int.tmod a0 a1) + a1))) else (some (Int.tmod a0 a1)))
set_option maxHeartbeats 8000000 in
set_option maxRecDepth 100000 in
theorem deadboltlaw5_within.calls (a0 : Int) (a1 : Int) (r : Int) (w : World) (h : deadboltlaw5_within.f a0 a1 = some r) :
    Calls Tryd.prog 20 #[.int .i64 a0, .int .i64 a1] w fun e w' => e = .returned (.int .i64 r) ∧ Drawn0 w w' := by
  have H : (if a1 = 0 then (none) else (if (Int.tmod a0 a1) < 0 then (some (wrap64 ((Int.tmod a0 a1) + a1))) else (some (Int.tmod a0 a1)))) = some r := h
  clear h
  by_cases c3 : a1 = 0
  · rw [if_pos c3] at H
    exact absurd H (by simp)
  · rw [if_neg c3] at H
    have c3b0 : (a1 == 0) = false := beq_eq_false_iff_ne.mpr c3
    have c3b1 : (a1 != 0) = true := bne_iff_ne.mpr c3
    by_cases c4 : (Int.tmod a0 a1) < 0
    · rw [if_pos c4] at H
      have c4b0 : decide ((Int.tmod a0 a1) < 0) = true := decide_eq_true c4
      clear c4
      obtain rfl := Option.some.inj H
      go_enter Tryd.func20, Tryd.ntmps20
      go_wp2
      go_ret
      exact ⟨by first | rfl | (simp; done) | (simp [*]; done), by repeat (first | exact Drawn0.refl _ | apply Drawn0.step)⟩
    · rw [if_neg c4] at H
      have c4b0 : decide ((Int.tmod a0 a1) < 0) = false := decide_eq_false c4
      clear c4
      obtain rfl := Option.some.inj H
      go_enter Tryd.func20, Tryd.ntmps20
      go_wp2
      go_ret
      exact ⟨by first | rfl | (simp; done) | (simp [*]; done), by repeat (first | exact Drawn0.refl _ | apply Drawn0.step)⟩

/-! ### deadboltlaw5_Text: function 11 -/
def deadboltlaw5_Text.l0 : Nat → List Int → ByteArray → Int → Option (ByteArray)
  | 0, _, _, _ => none
  | k + 1, x0, x3, x4 => if x4 < (x0.length : Int) then (if x4 < 150 then ((some (([(⟨#[123]⟩ : ByteArray), (⟨#[125]⟩ : ByteArray), (⟨#[32]⟩ : ByteArray), (⟨#[120]⟩ : ByteArray), (⟨#[108]⟩ : ByteArray), (⟨#[109, 97, 105, 110]⟩ : ByteArray), (⟨#[117, 115, 101, 32]⟩ : ByteArray), (⟨#[115, 101, 116, 32]⟩ : ByteArray), (⟨#[108, 111, 99, 107, 32]⟩ : ByteArray), (⟨#[117, 110, 108, 111, 99, 107, 32]⟩ : ByteArray), (⟨#[99, 97, 108, 108, 32]⟩ : ByteArray), (⟨#[115, 112, 97, 119, 110, 32]⟩ : ByteArray), (⟨#[105, 102, 32]⟩ : ByteArray), (⟨#[101, 108, 115, 101, 32]⟩ : ByteArray), (⟨#[108, 111, 111, 112, 32]⟩ : ByteArray), (⟨#[118, 97, 114, 32]⟩ : ByteArray), (⟨#[102, 117, 110, 99, 32]⟩ : ByteArray), (⟨#[102, 32]⟩ : ByteArray), (⟨#[57]⟩ : ByteArray), (⟨#[10]⟩ : ByteArray), (⟨#[9]⟩ : ByteArray), (⟨#[65]⟩ : ByteArray), (⟨#[109, 50]⟩ : ByteArray), (⟨#[97, 98, 99, 100, 101, 102, 103, 104, 105, 106, 107, 108, 109]⟩ : ByteArray)] : List ByteArray) : List ByteArray)).bind fun y178 => (if 0 ≤ x4 then ((deadboltlaw5_within.f (rd x0 x4) 24).bind fun t182 => (if 0 ≤ t182 then (if t182 < (y178.length : Int) then (if x3.size + (rdOf ByteArray.empty y178 t182).size ≤ 9223372036854775807 then (deadboltlaw5_Text.l0 k x0 (x3 ++ (rdOf ByteArray.empty y178 t182)) (wrap64 (x4 + 1))) else (none)) else (none)) else (none))) else (none))) else (some x3)) else (some x3)
def deadboltlaw5_Text.f (k : Nat) (l0 : List Int) : Option (ByteArray) := deadboltlaw5_Text.l0 k l0 (⟨#[]⟩ : ByteArray) 0
theorem deadboltlaw5_Text.mono_l : ∀ k, (∀ y0 y1 y2, LeO (deadboltlaw5_Text.l0 k y0 y1 y2) (deadboltlaw5_Text.l0 (k + 1) y0 y1 y2))
  | 0 => fun _ _ _ r h => by simp [deadboltlaw5_Text.l0] at h
  | k + 1 => by
    have ih0 := deadboltlaw5_Text.mono_l k
    · intro y0 y1 y2
      unfold deadboltlaw5_Text.l0
      repeat' first
      | (with_reducible exact ih0 _ _ _)
      | (with_reducible exact LeO.refl _)
      | (with_reducible exact LeO.none _)
      | (with_reducible refine LeO.ite ?_ ?_)
      | (with_reducible refine LeO.bind ?_ (fun _ => ?_))
      | exact ih0 _ _ _
      | exact LeO.none _
      | refine LeO.ite ?_ ?_
      | refine LeO.bind ?_ (fun _ => ?_)
theorem deadboltlaw5_Text.mono : ∀ a0 k, LeO (deadboltlaw5_Text.f k a0) (deadboltlaw5_Text.f (k + 1) a0) := by
  intro a0 k
  have ih0 := deadboltlaw5_Text.mono_l k
  unfold deadboltlaw5_Text.f
  repeat' first
      | (with_reducible exact ih0 _ _ _)
      | (with_reducible exact LeO.refl _)
      | (with_reducible exact LeO.none _)
      | (with_reducible refine LeO.ite ?_ ?_)
      | (with_reducible refine LeO.bind ?_ (fun _ => ?_))
      | exact ih0 _ _ _
      | exact LeO.none _
      | refine LeO.ite ?_ ?_
      | refine LeO.bind ?_ (fun _ => ?_)
set_option maxHeartbeats 8000000 in
set_option maxRecDepth 100000 in
theorem deadboltlaw5_Text.calls (k : Nat) (A0 : Option Addr) (c0 : Nat) (l0 : List Int) (r : ByteArray) (w : World) (hr0 : Kd.C (Kd.int .i64) w A0 l0.length l0) (hc0 : l0.length ≤ c0) (h : deadboltlaw5_Text.f k l0 = some r) :
    Calls Tryd.prog 11 #[.slice A0 l0.length c0] w fun e w' => e = .returned (.string r) ∧ Below w.heap.size w w' := by
  have HR0 := Aside0.mk hr0
  have HC0 := Aside0.mk hc0
  clear hr0 hc0
  have HB := Aside0.mk (Below.refl w.heap.size w)
  have H : (deadboltlaw5_Text.l0 k l0 (⟨#[]⟩ : ByteArray) 0) = some r := h
  clear h
  have H' := Aside0.mk H
  clear H
  go_enter Tryd.func11, Tryd.ntmps11
  go_wp2
  go_loopg [3, 4] k (fun kq v3 v4 w' => ∃ (x3_1 : ByteArray) (x4_1 : Int), v3 = .string x3_1 ∧ v4 = .int .i64 x4_1 ∧ Aside0 (deadboltlaw5_Text.l0 kq l0 x3_1 x4_1 = some r) ∧ Aside0 (kq ≤ k) ∧ Aside0 (Below w.heap.size w w'))
  case atStart => exact ⟨((⟨#[]⟩ : ByteArray)), (0), (by first | rfl | (simp; done) | (simp [*]; done)), (by first | rfl | (simp; done) | (simp [*]; done)), H', ⟨Nat.le_refl _⟩, ⟨by repeat (first | (with_reducible first | exact HB.out | apply below_alloc | apply pw_below_drewN | apply below_drew1) | exact HB.out)⟩⟩
  case round =>
    clear H'
    try clear c1
    obtain ⟨x3_1, x4_1, rfl, rfl, HA, HK1, HB⟩ := hrel
    cases gk with
    | zero => exact absurd HA.out (by simp [deadboltlaw5_Text.l0])
    | succ k1 =>
      have H := HA.out
      clear HA
      simp only [deadboltlaw5_Text.l0] at H
      by_cases c2 : x4_1 < (l0.length : Int)
      · rw [if_pos c2] at H
        have c2b0 : decide (x4_1 < (l0.length : Int)) = true := decide_eq_true c2
        clear c2
        by_cases c3 : x4_1 < 150
        · rw [if_pos c3] at H
          have c3b0 : decide (x4_1 < 150) = true := decide_eq_true c3
          clear c3
          obtain ⟨y178, hy178⟩ : ∃ y_ : List ByteArray, y_ = (([(⟨#[123]⟩ : ByteArray), (⟨#[125]⟩ : ByteArray), (⟨#[32]⟩ : ByteArray), (⟨#[120]⟩ : ByteArray), (⟨#[108]⟩ : ByteArray), (⟨#[109, 97, 105, 110]⟩ : ByteArray), (⟨#[117, 115, 101, 32]⟩ : ByteArray), (⟨#[115, 101, 116, 32]⟩ : ByteArray), (⟨#[108, 111, 99, 107, 32]⟩ : ByteArray), (⟨#[117, 110, 108, 111, 99, 107, 32]⟩ : ByteArray), (⟨#[99, 97, 108, 108, 32]⟩ : ByteArray), (⟨#[115, 112, 97, 119, 110, 32]⟩ : ByteArray), (⟨#[105, 102, 32]⟩ : ByteArray), (⟨#[101, 108, 115, 101, 32]⟩ : ByteArray), (⟨#[108, 111, 111, 112, 32]⟩ : ByteArray), (⟨#[118, 97, 114, 32]⟩ : ByteArray), (⟨#[102, 117, 110, 99, 32]⟩ : ByteArray), (⟨#[102, 32]⟩ : ByteArray), (⟨#[57]⟩ : ByteArray), (⟨#[10]⟩ : ByteArray), (⟨#[9]⟩ : ByteArray), (⟨#[65]⟩ : ByteArray), (⟨#[109, 50]⟩ : ByteArray), (⟨#[97, 98, 99, 100, 101, 102, 103, 104, 105, 106, 107, 108, 109]⟩ : ByteArray)] : List ByteArray)) := ⟨_, rfl⟩
          replace H : (if 0 ≤ x4_1 then ((deadboltlaw5_within.f (rd l0 x4_1) 24).bind fun t182 => (if 0 ≤ t182 then (if t182 < (y178.length : Int) then (if x3_1.size + (rdOf ByteArray.empty y178 t182).size ≤ 9223372036854775807 then (deadboltlaw5_Text.l0 k1 l0 (x3_1 ++ (rdOf ByteArray.empty y178 t182)) (wrap64 (x4_1 + 1))) else (none)) else (none)) else (none))) else (none)) = some r := by first | (rw [hy178]; with_reducible exact H) | (have H2_ := (Option.bind_some _ _).symm.trans H; rw [hy178]; with_reducible exact H2_) | (have H2_ := (Option.bind_some _ _).symm.trans H; with_reducible exact H2_) | with_reducible exact H | (rw [hy178]; exact H) | exact H
          have Ny178 := Aside0.mk hy178
          clear hy178
          by_cases c4 : 0 ≤ x4_1
          · rw [if_pos c4] at H
            have c4b0 : decide (0 ≤ x4_1) = true := decide_eq_true c4
            clear c4
            replace H := Option.bind_eq_some_iff.mp H
            obtain ⟨t182, A50, H⟩ := H
            replace H : (if 0 ≤ t182 then (if t182 < (y178.length : Int) then (if x3_1.size + (rdOf ByteArray.empty y178 t182).size ≤ 9223372036854775807 then (deadboltlaw5_Text.l0 k1 l0 (x3_1 ++ (rdOf ByteArray.empty y178 t182)) (wrap64 (x4_1 + 1))) else (none)) else (none)) else (none)) = some r := H
            have A5 := Aside0.mk A50
            clear A50
            by_cases c6 : 0 ≤ t182
            · rw [if_pos c6] at H
              have c6b0 : decide (0 ≤ t182) = true := decide_eq_true c6
              clear c6
              by_cases c7 : t182 < (y178.length : Int)
              · rw [if_pos c7] at H
                have c7b0 : decide (t182 < (y178.length : Int)) = true := decide_eq_true c7
                clear c7
                by_cases c8 : x3_1.size + (rdOf ByteArray.empty y178 t182).size ≤ 9223372036854775807
                · rw [if_pos c8] at H
                  have c8b0 := eq_true c8
                  have c8b1 : decide (x3_1.size + (rdOf ByteArray.empty y178 t182).size ≤ 9223372036854775807) = true := decide_eq_true c8
                  try have c8b2 : (9223372036854775807 < x3_1.size + (rdOf ByteArray.empty y178 t182).size) = False := eq_false (Nat.not_lt.2 c8)
                  have H' := Aside0.mk H
                  clear H
                  go_wp2_with (first | ((with_reducible refine gate_dst (N := 16) rfl ?_); refine Kd.R_lit Kd.string _ 9 ?hg (N := 16) ?hd (xs := ([(⟨#[123]⟩ : ByteArray), (⟨#[125]⟩ : ByteArray), (⟨#[32]⟩ : ByteArray), (⟨#[120]⟩ : ByteArray), (⟨#[108]⟩ : ByteArray), (⟨#[109, 97, 105, 110]⟩ : ByteArray), (⟨#[117, 115, 101, 32]⟩ : ByteArray), (⟨#[115, 101, 116, 32]⟩ : ByteArray), (⟨#[108, 111, 99, 107, 32]⟩ : ByteArray), (⟨#[117, 110, 108, 111, 99, 107, 32]⟩ : ByteArray), (⟨#[99, 97, 108, 108, 32]⟩ : ByteArray), (⟨#[115, 112, 97, 119, 110, 32]⟩ : ByteArray), (⟨#[105, 102, 32]⟩ : ByteArray), (⟨#[101, 108, 115, 101, 32]⟩ : ByteArray), (⟨#[108, 111, 111, 112, 32]⟩ : ByteArray), (⟨#[118, 97, 114, 32]⟩ : ByteArray), (⟨#[102, 117, 110, 99, 32]⟩ : ByteArray), (⟨#[102, 32]⟩ : ByteArray), (⟨#[57]⟩ : ByteArray), (⟨#[10]⟩ : ByteArray), (⟨#[9]⟩ : ByteArray), (⟨#[65]⟩ : ByteArray), (⟨#[109, 50]⟩ : ByteArray), (⟨#[97, 98, 99, 100, 101, 102, 103, 104, 105, 106, 107, 108, 109]⟩ : ByteArray)] : List ByteArray)) (inner := [.string (⟨#[123]⟩ : ByteArray), .string (⟨#[125]⟩ : ByteArray), .string (⟨#[32]⟩ : ByteArray), .string (⟨#[120]⟩ : ByteArray), .string (⟨#[108]⟩ : ByteArray), .string (⟨#[109, 97, 105, 110]⟩ : ByteArray), .string (⟨#[117, 115, 101, 32]⟩ : ByteArray), .string (⟨#[115, 101, 116, 32]⟩ : ByteArray), .string (⟨#[108, 111, 99, 107, 32]⟩ : ByteArray), .string (⟨#[117, 110, 108, 111, 99, 107, 32]⟩ : ByteArray), .string (⟨#[99, 97, 108, 108, 32]⟩ : ByteArray), .string (⟨#[115, 112, 97, 119, 110, 32]⟩ : ByteArray), .string (⟨#[105, 102, 32]⟩ : ByteArray), .string (⟨#[101, 108, 115, 101, 32]⟩ : ByteArray), .string (⟨#[108, 111, 111, 112, 32]⟩ : ByteArray), .string (⟨#[118, 97, 114, 32]⟩ : ByteArray), .string (⟨#[102, 117, 110, 99, 32]⟩ : ByteArray), .string (⟨#[102, 32]⟩ : ByteArray), .string (⟨#[57]⟩ : ByteArray), .string (⟨#[10]⟩ : ByteArray), .string (⟨#[9]⟩ : ByteArray), .string (⟨#[65]⟩ : ByteArray), .string (⟨#[109, 50]⟩ : ByteArray), .string (⟨#[97, 98, 99, 100, 101, 102, 103, 104, 105, 106, 107, 108, 109]⟩ : ByteArray)]) (ok := fun _ => True) (okp := fun _ => True) ?hr ?hp (fun _ hk => hk) trivial (Below.refl _ _) (Nat.le_refl _) (by simp) ?_; (case hd => rfl); (case hg => rfl); (case hr => first | (go_simp; done) | (go_simp; rfl)); (case hp => exact (Reps.one (show Kd.M Kd.string _ _ _ (⟨#[123]⟩ : ByteArray) [.string (⟨#[123]⟩ : ByteArray)] from rfl) (Reps.one (show Kd.M Kd.string _ _ _ (⟨#[125]⟩ : ByteArray) [.string (⟨#[125]⟩ : ByteArray)] from rfl) (Reps.one (show Kd.M Kd.string _ _ _ (⟨#[32]⟩ : ByteArray) [.string (⟨#[32]⟩ : ByteArray)] from rfl) (Reps.one (show Kd.M Kd.string _ _ _ (⟨#[120]⟩ : ByteArray) [.string (⟨#[120]⟩ : ByteArray)] from rfl) (Reps.one (show Kd.M Kd.string _ _ _ (⟨#[108]⟩ : ByteArray) [.string (⟨#[108]⟩ : ByteArray)] from rfl) (Reps.one (show Kd.M Kd.string _ _ _ (⟨#[109, 97, 105, 110]⟩ : ByteArray) [.string (⟨#[109, 97, 105, 110]⟩ : ByteArray)] from rfl) (Reps.one (show Kd.M Kd.string _ _ _ (⟨#[117, 115, 101, 32]⟩ : ByteArray) [.string (⟨#[117, 115, 101, 32]⟩ : ByteArray)] from rfl) (Reps.one (show Kd.M Kd.string _ _ _ (⟨#[115, 101, 116, 32]⟩ : ByteArray) [.string (⟨#[115, 101, 116, 32]⟩ : ByteArray)] from rfl) (Reps.one (show Kd.M Kd.string _ _ _ (⟨#[108, 111, 99, 107, 32]⟩ : ByteArray) [.string (⟨#[108, 111, 99, 107, 32]⟩ : ByteArray)] from rfl) (Reps.one (show Kd.M Kd.string _ _ _ (⟨#[117, 110, 108, 111, 99, 107, 32]⟩ : ByteArray) [.string (⟨#[117, 110, 108, 111, 99, 107, 32]⟩ : ByteArray)] from rfl) (Reps.one (show Kd.M Kd.string _ _ _ (⟨#[99, 97, 108, 108, 32]⟩ : ByteArray) [.string (⟨#[99, 97, 108, 108, 32]⟩ : ByteArray)] from rfl) (Reps.one (show Kd.M Kd.string _ _ _ (⟨#[115, 112, 97, 119, 110, 32]⟩ : ByteArray) [.string (⟨#[115, 112, 97, 119, 110, 32]⟩ : ByteArray)] from rfl) (Reps.one (show Kd.M Kd.string _ _ _ (⟨#[105, 102, 32]⟩ : ByteArray) [.string (⟨#[105, 102, 32]⟩ : ByteArray)] from rfl) (Reps.one (show Kd.M Kd.string _ _ _ (⟨#[101, 108, 115, 101, 32]⟩ : ByteArray) [.string (⟨#[101, 108, 115, 101, 32]⟩ : ByteArray)] from rfl) (Reps.one (show Kd.M Kd.string _ _ _ (⟨#[108, 111, 111, 112, 32]⟩ : ByteArray) [.string (⟨#[108, 111, 111, 112, 32]⟩ : ByteArray)] from rfl) (Reps.one (show Kd.M Kd.string _ _ _ (⟨#[118, 97, 114, 32]⟩ : ByteArray) [.string (⟨#[118, 97, 114, 32]⟩ : ByteArray)] from rfl) (Reps.one (show Kd.M Kd.string _ _ _ (⟨#[102, 117, 110, 99, 32]⟩ : ByteArray) [.string (⟨#[102, 117, 110, 99, 32]⟩ : ByteArray)] from rfl) (Reps.one (show Kd.M Kd.string _ _ _ (⟨#[102, 32]⟩ : ByteArray) [.string (⟨#[102, 32]⟩ : ByteArray)] from rfl) (Reps.one (show Kd.M Kd.string _ _ _ (⟨#[57]⟩ : ByteArray) [.string (⟨#[57]⟩ : ByteArray)] from rfl) (Reps.one (show Kd.M Kd.string _ _ _ (⟨#[10]⟩ : ByteArray) [.string (⟨#[10]⟩ : ByteArray)] from rfl) (Reps.one (show Kd.M Kd.string _ _ _ (⟨#[9]⟩ : ByteArray) [.string (⟨#[9]⟩ : ByteArray)] from rfl) (Reps.one (show Kd.M Kd.string _ _ _ (⟨#[65]⟩ : ByteArray) [.string (⟨#[65]⟩ : ByteArray)] from rfl) (Reps.one (show Kd.M Kd.string _ _ _ (⟨#[109, 50]⟩ : ByteArray) [.string (⟨#[109, 50]⟩ : ByteArray)] from rfl) (Reps.one (show Kd.M Kd.string _ _ _ (⟨#[97, 98, 99, 100, 101, 102, 103, 104, 105, 106, 107, 108, 109]⟩ : ByteArray) [.string (⟨#[97, 98, 99, 100, 101, 102, 103, 104, 105, 106, 107, 108, 109]⟩ : ByteArray)] from rfl) (Reps.none _ _)))))))))))))))))))))))))); intro v179 w9 ho10 hb hg_ hnew_; clear hg_ hnew_; (first | rw [← Ny178.out] at ho10 | (simp only [Int.reduceToNat] at ho10; rw [← Ny178.out] at ho10)); have n0_ := Aside0.mk (Kd.R_lower ho10 (below_size (by repeat (first | (with_reducible first | exact HB.out | apply below_alloc | apply pw_below_drewN | apply below_drew1) | exact HB.out)))); have n1_ := Aside0.mk (below_step (by repeat (first | (with_reducible first | exact HB.out | apply below_alloc | apply pw_below_drewN | apply below_drew1) | exact HB.out)) hb); clear HB; have HO180 := n0_; have HB := n1_; clear n0_ n1_; clear hb ho10; have p181 : 0 ≤ (x4_1 : Int) := of_decide_eq_true (by first | (with_reducible assumption) | assumption); have q181 : x4_1 < (l0.length : Int) := of_decide_eq_true (by first | (with_reducible assumption) | assumption); obtain ⟨ad181, e181, hx181_0⟩ := Kd.at_int HR0.out x4_1 p181 q181; cases e181; replace hx181_0 := (HB.out.cell (World.block_lt_of_cell? w _ hx181_0)).trans hx181_0; replace p181 := eq_true p181; replace q181 := eq_true q181) | ((with_reducible refine gate_callee (f := 20) rfl ?_); refine goesL_ (some 21) rfl rfl Tryd.func20 (by kernel_rfl) rfl #[.int .i64 (rd l0 x4_1), .int .i64 24] rfl (by (try simp only [List.map_toArray, List.map_cons, List.map_nil]); first | done | rfl | (simp only [List.length_drop, List.length_take]; rfl)) ?_; (with_reducible refine (deadboltlaw5_within.calls (rd l0 x4_1) 24 t182 _ A5.out).mono ?_); rintro e w' ⟨rfl, ⟨nd, rfl⟩⟩; refine ⟨_, rfl, ?_⟩; obtain ⟨Ao11, co11, eo11⟩ := Kd.R_slice HO180.out; subst eo11; have p183 : 0 ≤ (t182 : Int) := of_decide_eq_true (by first | (with_reducible assumption) | assumption); have q183 : t182 < (y178.length : Int) := of_decide_eq_true (by first | (with_reducible assumption) | assumption); obtain ⟨ad183, e183, hx183_0⟩ := Kd.at_string (Kd.R_reads' HO180.out).2.2 t182 p183 q183; cases e183; replace p183 := eq_true p183; replace q183 := eq_true q183))
                  go_roundg k1
                  case measure => have := HK1.out; omega
                  case rel => exact ⟨(x3_1 ++ (rdOf ByteArray.empty y178 t182)), (wrap64 (x4_1 + 1)), (by first | rfl | (simp; done) | (simp [*]; done)), (by first | rfl | (simp; done) | (simp [*]; done)), H', ⟨by have := HK1.out; omega⟩, ⟨by repeat (first | (with_reducible first | exact HB.out | apply below_alloc | apply pw_below_drewN | apply below_drew1) | exact HB.out)⟩⟩
                · rw [if_neg c8] at H
                  exact absurd H (by simp)
              · rw [if_neg c7] at H
                exact absurd H (by simp)
            · rw [if_neg c6] at H
              exact absurd H (by simp)
          · rw [if_neg c4] at H
            exact absurd H (by simp)
        · rw [if_neg c3] at H
          have c3b0 : decide (x4_1 < 150) = false := decide_eq_false c3
          clear c3
          obtain rfl := Option.some.inj H
          go_wp2
          go_ret
          exact ⟨by first | rfl | (simp [errW_none, errW_some] <;> rfl) | (simp [*, errW_none, errW_some] <;> rfl), by repeat (first | (with_reducible first | exact HB.out | apply below_alloc | apply pw_below_drewN | apply below_drew1) | exact HB.out)⟩
      · rw [if_neg c2] at H
        have c2b0 : decide (x4_1 < (l0.length : Int)) = false := decide_eq_false c2
        clear c2
        obtain rfl := Option.some.inj H
        go_wp2
        go_ret
        exact ⟨by first | rfl | (simp [errW_none, errW_some] <;> rfl) | (simp [*, errW_none, errW_some] <;> rfl), by repeat (first | (with_reducible first | exact HB.out | apply below_alloc | apply pw_below_drewN | apply below_drew1) | exact HB.out)⟩

end Go.Proofs.YtpnnojigdhkjaaaDoor.Q
