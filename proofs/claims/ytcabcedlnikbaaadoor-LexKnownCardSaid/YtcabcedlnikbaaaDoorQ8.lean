-- written by wip/xprint.py (over the kit's print.py) out of the translation. Not trusted: Lean checks it.
import Derived.Test.YtcabcedlnikbaaaDoorQ0
import Derived.Test.YtcabcedlnikbaaaDoorQ2
import Derived.Test.YtcabcedlnikbaaaDoorQ4
import Derived.Test.YtcabcedlnikbaaaDoorLexTok
namespace Go.Proofs.YtcabcedlnikbaaaDoor.Q
open Go.RowKit Go.Proofs.YtcabcedlnikbaaaDoorW.PrintWords Go.Proofs.YtcabcedlnikbaaaDoorW.PrintLast Go.Proofs.YtcabcedlnikbaaaDoorW.PrintMore
attribute [local go_sem] max2_int min2_int max_two min_two max_three min_three max_four min_four   -- for this text's walks alone
set_option linter.unusedVariables false
set_option linter.unusedSimpArgs false

/-! ### deadboltlaw5_LexKnown: function 6 -/
def deadboltlaw5_LexKnown.l0 : Nat → List ByteArray → Int → List (S39) → Int → ByteArray → Int → Option (Bool)
  | 0, _, _, _, _, _, _ => none
  | k + 1, x4, x5, x6, x7, x9, x10 => if x10 < (x6.length : Int) then (if 0 ≤ x10 then (if ((rd_T39 x6 x10).f0) = 1 then (if x9.size + ((rd_T39 x6 x10).f2).size ≤ 9223372036854775807 then (if (x9 ++ ((rd_T39 x6 x10).f2)).size + 1 ≤ 9223372036854775807 then ((some (([(wrap64 (48 + ((rd_T39 x6 x10).f1))) % 256] : List Int) : List Int)).bind fun y237 => (if ((x9 ++ ((rd_T39 x6 x10).f2)) ++ (⟨#[64]⟩ : ByteArray)).size + (strOfNums y237).size ≤ 9223372036854775807 then (if (((x9 ++ ((rd_T39 x6 x10).f2)) ++ (⟨#[64]⟩ : ByteArray)) ++ (strOfNums y237)).size + 1 ≤ 9223372036854775807 then (deadboltlaw5_LexKnown.l0 k x4 x5 x6 x7 ((((x9 ++ ((rd_T39 x6 x10).f2)) ++ (⟨#[64]⟩ : ByteArray)) ++ (strOfNums y237)) ++ (⟨#[32]⟩ : ByteArray)) (wrap64 (x10 + 1))) else (none)) else (none))) else (none)) else (none)) else (if 0 ≤ (wrap64 (((rd_T39 x6 x10).f0) - 2)) then (if (wrap64 (((rd_T39 x6 x10).f0) - 2)) ≤ (wrap64 (((rd_T39 x6 x10).f0) - 1)) then (if (wrap64 (((rd_T39 x6 x10).f0) - 1)) ≤ 2 then (if x9.size + ((⟨#[123, 125]⟩ : ByteArray).extract ((wrap64 (((rd_T39 x6 x10).f0) - 2)) : Int).toNat ((wrap64 (((rd_T39 x6 x10).f0) - 1)) : Int).toNat).size ≤ 9223372036854775807 then (if (x9 ++ ((⟨#[123, 125]⟩ : ByteArray).extract ((wrap64 (((rd_T39 x6 x10).f0) - 2)) : Int).toNat ((wrap64 (((rd_T39 x6 x10).f0) - 1)) : Int).toNat)).size + 1 ≤ 9223372036854775807 then ((some (([(wrap64 (48 + ((rd_T39 x6 x10).f1))) % 256] : List Int) : List Int)).bind fun y243 => (if ((x9 ++ ((⟨#[123, 125]⟩ : ByteArray).extract ((wrap64 (((rd_T39 x6 x10).f0) - 2)) : Int).toNat ((wrap64 (((rd_T39 x6 x10).f0) - 1)) : Int).toNat)) ++ (⟨#[64]⟩ : ByteArray)).size + (strOfNums y243).size ≤ 9223372036854775807 then (if (((x9 ++ ((⟨#[123, 125]⟩ : ByteArray).extract ((wrap64 (((rd_T39 x6 x10).f0) - 2)) : Int).toNat ((wrap64 (((rd_T39 x6 x10).f0) - 1)) : Int).toNat)) ++ (⟨#[64]⟩ : ByteArray)) ++ (strOfNums y243)).size + 1 ≤ 9223372036854775807 then (deadboltlaw5_LexKnown.l0 k x4 x5 x6 x7 ((((x9 ++ ((⟨#[123, 125]⟩ : ByteArray).extract ((wrap64 (((rd_T39 x6 x10).f0) - 2)) : Int).toNat ((wrap64 (((rd_T39 x6 x10).f0) - 1)) : Int).toNat)) ++ (⟨#[64]⟩ : ByteArray)) ++ (strOfNums y243)) ++ (⟨#[32]⟩ : ByteArray)) (wrap64 (x10 + 1))) else (none)) else (none))) else (none)) else (none)) else (none)) else (none)) else (none))) else (none)) else (if 0 ≤ x5 then (if x5 < (x4.length : Int) then (if x9.toList = (rdOf ByteArray.empty x4 x5).toList then (some (x7 == 0)) else (some false)) else (none)) else (none))
def deadboltlaw5_LexKnown.f (k : Nat) (a0 : Int) : Option (Bool) := (deadboltlaw5_known.f).bind fun t216 => (if t216 = true then ((some (([(⟨#[]⟩ : ByteArray), (⟨#[32, 9, 10, 32]⟩ : ByteArray), (⟨#[97, 123, 98, 125]⟩ : ByteArray), (⟨#[120, 57, 32, 57]⟩ : ByteArray), (⟨#[117, 115, 101, 32, 117, 115, 101, 120]⟩ : ByteArray), (⟨#[123, 32, 123]⟩ : ByteArray), (⟨#[65]⟩ : ByteArray), (⟨#[97, 45, 98]⟩ : ByteArray), (⟨#[97, 13]⟩ : ByteArray), (⟨#[97, 98, 0]⟩ : ByteArray), (⟨#[97, 95, 98]⟩ : ByteArray)] : List ByteArray) : List ByteArray)).bind fun y217 => ((some (([(⟨#[]⟩ : ByteArray), (⟨#[]⟩ : ByteArray), (⟨#[97, 64, 48, 32, 123, 64, 49, 32, 98, 64, 50, 32, 125, 64, 51, 32]⟩ : ByteArray), (⟨#[57]⟩ : ByteArray), (⟨#[117, 115, 101, 64, 48, 32, 117, 115, 101, 120, 64, 52, 32]⟩ : ByteArray), (⟨#[123, 64, 48, 32, 123, 64, 50, 32]⟩ : ByteArray), (⟨#[48]⟩ : ByteArray), (⟨#[49]⟩ : ByteArray), (⟨#[49]⟩ : ByteArray), (⟨#[50]⟩ : ByteArray), (⟨#[49]⟩ : ByteArray)] : List ByteArray) : List ByteArray)).bind fun y220 => ((deadboltlaw5_within.f a0 (y217.length : Int)).bind fun t223 => (if 0 ≤ t223 then (if t223 < (y217.length : Int) then ((lex_Tokens.f (rdOf ByteArray.empty y217 t223)).bind fun bt225 => (if bt225.2.2 = 0 then (deadboltlaw5_LexKnown.l0 k y220 t223 bt225.1 bt225.2.1 (⟨#[]⟩ : ByteArray) 0) else (if bt225.2.2 = 6 then (if (bt225.1.length : Int) = 0 then (if t223 < (y220.length : Int) then (if (rdOf ByteArray.empty y220 t223).toList = (strOfNums (([(wrap64 (48 + bt225.2.1)) % 256] : List Int))).toList then (some true) else (if t223 = 3 then (some (bt225.2.1 == 3)) else (some false))) else (none)) else (some false)) else (some false)))) else (none)) else (none))))) else (some false))
theorem deadboltlaw5_LexKnown.mono_l : ∀ k, (∀ y0 y1 y2 y3 y4 y5, LeO (deadboltlaw5_LexKnown.l0 k y0 y1 y2 y3 y4 y5) (deadboltlaw5_LexKnown.l0 (k + 1) y0 y1 y2 y3 y4 y5))
  | 0 => fun _ _ _ _ _ _ r h => by simp [deadboltlaw5_LexKnown.l0] at h
  | k + 1 => by
    have ih0 := deadboltlaw5_LexKnown.mono_l k
    · intro y0 y1 y2 y3 y4 y5
      unfold deadboltlaw5_LexKnown.l0
      repeat' first
      | (with_reducible exact ih0 _ _ _ _ _ _)
      | (with_reducible exact LeO.refl _)
      | (with_reducible exact LeO.none _)
      | (with_reducible refine LeO.ite ?_ ?_)
      | (with_reducible refine LeO.bind ?_ (fun _ => ?_))
      | exact ih0 _ _ _ _ _ _
      | exact LeO.none _
      | refine LeO.ite ?_ ?_
      | refine LeO.bind ?_ (fun _ => ?_)
theorem deadboltlaw5_LexKnown.mono : ∀ a0 k, LeO (deadboltlaw5_LexKnown.f k a0) (deadboltlaw5_LexKnown.f (k + 1) a0) := by
  intro a0 k
  have ih0 := deadboltlaw5_LexKnown.mono_l k
  unfold deadboltlaw5_LexKnown.f
  repeat' first
      | (with_reducible exact ih0 _ _ _ _ _ _)
      | (with_reducible exact LeO.refl _)
      | (with_reducible exact LeO.none _)
      | (with_reducible refine LeO.ite ?_ ?_)
      | (with_reducible refine LeO.bind ?_ (fun _ => ?_))
      | exact ih0 _ _ _ _ _ _
      | exact LeO.none _
      | refine LeO.ite ?_ ?_
      | refine LeO.bind ?_ (fun _ => ?_)
def deadboltlaw5_LexKnown.T8 : Bool × List (List Nat × List Nat) := (true, [([], []), ([0], [0]), ([1], [1]), ([2], [2]), ([3, 2], [2, 3]), ([4, 2], [2, 4]), ([2, 5], [2, 5]), ([6, 2], [6]), ([7], [7]), ([7], [7]), ([8, 9, 7], [7, 8, 9]), ([10, 7], [7, 10]), ([7], [7]), ([12, 7], [7, 12]), ([13, 7], [7, 13]), ([14, 7], [7, 14]), ([15, 7], [7, 15]), ([11, 16, 7], [7, 11, 16]), ([17, 7, 7], [7, 17]), ([18], [18]), ([19, 18], [18, 19]), ([20, 18, 18], [18, 20]), ([21], [21]), ([22, 21], [21, 22]), ([21, 23, 18], [18, 21, 23]), ([18, 24, 7], [7, 18, 24]), ([7, 25], [7, 25]), ([26, 21, 0, 1, 2, 3, 4, 5, 6, 7, 8, 9, 10, 11, 12, 13, 14, 15, 16, 17, 18, 19, 20, 21, 22, 23, 24, 25, 26], [26])])
def deadboltlaw5_LexKnown.B8 : List Nat := [0, 1, 3, 7, 15, 31, 63, 127, 255, 255, 1023, 2047, 255, 4351, 12543, 28927, 61695, 131071, 262143, 524287, 1048575, 2097151, 4194303, 8388607, 16777215, 33554431, 67108863, 134217727]
theorem deadboltlaw5_LexKnown.tab8 : rtab .any (opsOf Tryd.f6 8) = deadboltlaw5_LexKnown.T8 := by kernel_rfl
theorem deadboltlaw5_LexKnown.bits8 : waitsOk deadboltlaw5_LexKnown.T8.2 deadboltlaw5_LexKnown.B8 = true := by kernel_rfl
def deadboltlaw5_LexKnown.T15 : Bool × List (List Nat × List Nat) := (true, [([], []), ([], []), ([0, 1], [0, 1]), ([2], [2]), ([3], [3]), ([4], [4]), ([], []), ([], []), ([6, 7], [6, 7]), ([8], [8]), ([9], [9]), ([10], [10]), ([5, 11], [5, 11]), ([12, 0, 1, 2, 3, 4, 5, 6, 7, 8, 9, 10, 11, 12], [12])])
def deadboltlaw5_LexKnown.B15 : List Nat := [0, 0, 3, 7, 15, 31, 0, 0, 192, 448, 960, 1984, 4095, 8191]
theorem deadboltlaw5_LexKnown.tab15 : rtab .any (opsOf Tryd.f6 15) = deadboltlaw5_LexKnown.T15 := by kernel_rfl
theorem deadboltlaw5_LexKnown.bits15 : waitsOk deadboltlaw5_LexKnown.T15.2 deadboltlaw5_LexKnown.B15 = true := by kernel_rfl
set_option maxHeartbeats 8000000 in
set_option maxRecDepth 100000 in
theorem deadboltlaw5_LexKnown.calls (k : Nat) (a0 : Int) (r : Bool) (w : World) (h : deadboltlaw5_LexKnown.f k a0 = some r) (hG : GL w) :
    Calls Tryd.prog 6 #[.int .i64 a0] w fun e w' => e = .returned (.bool r) ∧ Below w.heap.size w w' := by
  have HG := Aside0.mk hG
  clear hG
  have HB := Aside0.mk (Below.refl w.heap.size w)
  have H : ((deadboltlaw5_known.f).bind fun t216 => (if t216 = true then ((some (([(⟨#[]⟩ : ByteArray), (⟨#[32, 9, 10, 32]⟩ : ByteArray), (⟨#[97, 123, 98, 125]⟩ : ByteArray), (⟨#[120, 57, 32, 57]⟩ : ByteArray), (⟨#[117, 115, 101, 32, 117, 115, 101, 120]⟩ : ByteArray), (⟨#[123, 32, 123]⟩ : ByteArray), (⟨#[65]⟩ : ByteArray), (⟨#[97, 45, 98]⟩ : ByteArray), (⟨#[97, 13]⟩ : ByteArray), (⟨#[97, 98, 0]⟩ : ByteArray), (⟨#[97, 95, 98]⟩ : ByteArray)] : List ByteArray) : List ByteArray)).bind fun y217 => ((some (([(⟨#[]⟩ : ByteArray), (⟨#[]⟩ : ByteArray), (⟨#[97, 64, 48, 32, 123, 64, 49, 32, 98, 64, 50, 32, 125, 64, 51, 32]⟩ : ByteArray), (⟨#[57]⟩ : ByteArray), (⟨#[117, 115, 101, 64, 48, 32, 117, 115, 101, 120, 64, 52, 32]⟩ : ByteArray), (⟨#[123, 64, 48, 32, 123, 64, 50, 32]⟩ : ByteArray), (⟨#[48]⟩ : ByteArray), (⟨#[49]⟩ : ByteArray), (⟨#[49]⟩ : ByteArray), (⟨#[50]⟩ : ByteArray), (⟨#[49]⟩ : ByteArray)] : List ByteArray) : List ByteArray)).bind fun y220 => ((deadboltlaw5_within.f a0 (y217.length : Int)).bind fun t223 => (if 0 ≤ t223 then (if t223 < (y217.length : Int) then ((lex_Tokens.f (rdOf ByteArray.empty y217 t223)).bind fun bt225 => (if bt225.2.2 = 0 then (deadboltlaw5_LexKnown.l0 k y220 t223 bt225.1 bt225.2.1 (⟨#[]⟩ : ByteArray) 0) else (if bt225.2.2 = 6 then (if (bt225.1.length : Int) = 0 then (if t223 < (y220.length : Int) then (if (rdOf ByteArray.empty y220 t223).toList = (strOfNums (([(wrap64 (48 + bt225.2.1)) % 256] : List Int))).toList then (some true) else (if t223 = 3 then (some (bt225.2.1 == 3)) else (some false))) else (none)) else (some false)) else (some false)))) else (none)) else (none))))) else (some false))) = some r := h
  clear h
  replace H := Option.bind_eq_some_iff.mp H
  obtain ⟨t216, A20, H⟩ := H
  replace H : (if t216 = true then ((some (([(⟨#[]⟩ : ByteArray), (⟨#[32, 9, 10, 32]⟩ : ByteArray), (⟨#[97, 123, 98, 125]⟩ : ByteArray), (⟨#[120, 57, 32, 57]⟩ : ByteArray), (⟨#[117, 115, 101, 32, 117, 115, 101, 120]⟩ : ByteArray), (⟨#[123, 32, 123]⟩ : ByteArray), (⟨#[65]⟩ : ByteArray), (⟨#[97, 45, 98]⟩ : ByteArray), (⟨#[97, 13]⟩ : ByteArray), (⟨#[97, 98, 0]⟩ : ByteArray), (⟨#[97, 95, 98]⟩ : ByteArray)] : List ByteArray) : List ByteArray)).bind fun y217 => ((some (([(⟨#[]⟩ : ByteArray), (⟨#[]⟩ : ByteArray), (⟨#[97, 64, 48, 32, 123, 64, 49, 32, 98, 64, 50, 32, 125, 64, 51, 32]⟩ : ByteArray), (⟨#[57]⟩ : ByteArray), (⟨#[117, 115, 101, 64, 48, 32, 117, 115, 101, 120, 64, 52, 32]⟩ : ByteArray), (⟨#[123, 64, 48, 32, 123, 64, 50, 32]⟩ : ByteArray), (⟨#[48]⟩ : ByteArray), (⟨#[49]⟩ : ByteArray), (⟨#[49]⟩ : ByteArray), (⟨#[50]⟩ : ByteArray), (⟨#[49]⟩ : ByteArray)] : List ByteArray) : List ByteArray)).bind fun y220 => ((deadboltlaw5_within.f a0 (y217.length : Int)).bind fun t223 => (if 0 ≤ t223 then (if t223 < (y217.length : Int) then ((lex_Tokens.f (rdOf ByteArray.empty y217 t223)).bind fun bt225 => (if bt225.2.2 = 0 then (deadboltlaw5_LexKnown.l0 k y220 t223 bt225.1 bt225.2.1 (⟨#[]⟩ : ByteArray) 0) else (if bt225.2.2 = 6 then (if (bt225.1.length : Int) = 0 then (if t223 < (y220.length : Int) then (if (rdOf ByteArray.empty y220 t223).toList = (strOfNums (([(wrap64 (48 + bt225.2.1)) % 256] : List Int))).toList then (some true) else (if t223 = 3 then (some (bt225.2.1 == 3)) else (some false))) else (none)) else (some false)) else (some false)))) else (none)) else (none))))) else (some false)) = some r := H
  have A2 := Aside0.mk A20
  clear A20
  by_cases c3 : t216 = true
  · subst c3
    have H1 : ((some (([(⟨#[]⟩ : ByteArray), (⟨#[32, 9, 10, 32]⟩ : ByteArray), (⟨#[97, 123, 98, 125]⟩ : ByteArray), (⟨#[120, 57, 32, 57]⟩ : ByteArray), (⟨#[117, 115, 101, 32, 117, 115, 101, 120]⟩ : ByteArray), (⟨#[123, 32, 123]⟩ : ByteArray), (⟨#[65]⟩ : ByteArray), (⟨#[97, 45, 98]⟩ : ByteArray), (⟨#[97, 13]⟩ : ByteArray), (⟨#[97, 98, 0]⟩ : ByteArray), (⟨#[97, 95, 98]⟩ : ByteArray)] : List ByteArray) : List ByteArray)).bind fun y217 => ((some (([(⟨#[]⟩ : ByteArray), (⟨#[]⟩ : ByteArray), (⟨#[97, 64, 48, 32, 123, 64, 49, 32, 98, 64, 50, 32, 125, 64, 51, 32]⟩ : ByteArray), (⟨#[57]⟩ : ByteArray), (⟨#[117, 115, 101, 64, 48, 32, 117, 115, 101, 120, 64, 52, 32]⟩ : ByteArray), (⟨#[123, 64, 48, 32, 123, 64, 50, 32]⟩ : ByteArray), (⟨#[48]⟩ : ByteArray), (⟨#[49]⟩ : ByteArray), (⟨#[49]⟩ : ByteArray), (⟨#[50]⟩ : ByteArray), (⟨#[49]⟩ : ByteArray)] : List ByteArray) : List ByteArray)).bind fun y220 => ((deadboltlaw5_within.f a0 (y217.length : Int)).bind fun t223 => (if 0 ≤ t223 then (if t223 < (y217.length : Int) then ((lex_Tokens.f (rdOf ByteArray.empty y217 t223)).bind fun bt225 => (if bt225.2.2 = 0 then (deadboltlaw5_LexKnown.l0 k y220 t223 bt225.1 bt225.2.1 (⟨#[]⟩ : ByteArray) 0) else (if bt225.2.2 = 6 then (if (bt225.1.length : Int) = 0 then (if t223 < (y220.length : Int) then (if (rdOf ByteArray.empty y220 t223).toList = (strOfNums (([(wrap64 (48 + bt225.2.1)) % 256] : List Int))).toList then (some true) else (if t223 = 3 then (some (bt225.2.1 == 3)) else (some false))) else (none)) else (some false)) else (some false)))) else (none)) else (none))))) = some r := by rw [if_pos rfl] at H; exact H
    clear H
    have H := H1
    clear H1
    obtain ⟨y217, hy217⟩ : ∃ y_ : List ByteArray, y_ = (([(⟨#[]⟩ : ByteArray), (⟨#[32, 9, 10, 32]⟩ : ByteArray), (⟨#[97, 123, 98, 125]⟩ : ByteArray), (⟨#[120, 57, 32, 57]⟩ : ByteArray), (⟨#[117, 115, 101, 32, 117, 115, 101, 120]⟩ : ByteArray), (⟨#[123, 32, 123]⟩ : ByteArray), (⟨#[65]⟩ : ByteArray), (⟨#[97, 45, 98]⟩ : ByteArray), (⟨#[97, 13]⟩ : ByteArray), (⟨#[97, 98, 0]⟩ : ByteArray), (⟨#[97, 95, 98]⟩ : ByteArray)] : List ByteArray)) := ⟨_, rfl⟩
    replace H : ((some (([(⟨#[]⟩ : ByteArray), (⟨#[]⟩ : ByteArray), (⟨#[97, 64, 48, 32, 123, 64, 49, 32, 98, 64, 50, 32, 125, 64, 51, 32]⟩ : ByteArray), (⟨#[57]⟩ : ByteArray), (⟨#[117, 115, 101, 64, 48, 32, 117, 115, 101, 120, 64, 52, 32]⟩ : ByteArray), (⟨#[123, 64, 48, 32, 123, 64, 50, 32]⟩ : ByteArray), (⟨#[48]⟩ : ByteArray), (⟨#[49]⟩ : ByteArray), (⟨#[49]⟩ : ByteArray), (⟨#[50]⟩ : ByteArray), (⟨#[49]⟩ : ByteArray)] : List ByteArray) : List ByteArray)).bind fun y220 => ((deadboltlaw5_within.f a0 (y217.length : Int)).bind fun t223 => (if 0 ≤ t223 then (if t223 < (y217.length : Int) then ((lex_Tokens.f (rdOf ByteArray.empty y217 t223)).bind fun bt225 => (if bt225.2.2 = 0 then (deadboltlaw5_LexKnown.l0 k y220 t223 bt225.1 bt225.2.1 (⟨#[]⟩ : ByteArray) 0) else (if bt225.2.2 = 6 then (if (bt225.1.length : Int) = 0 then (if t223 < (y220.length : Int) then (if (rdOf ByteArray.empty y220 t223).toList = (strOfNums (([(wrap64 (48 + bt225.2.1)) % 256] : List Int))).toList then (some true) else (if t223 = 3 then (some (bt225.2.1 == 3)) else (some false))) else (none)) else (some false)) else (some false)))) else (none)) else (none)))) = some r := by first | (rw [hy217]; with_reducible exact H) | (have H2_ := (Option.bind_some _ _).symm.trans H; rw [hy217]; with_reducible exact H2_) | (have H2_ := (Option.bind_some _ _).symm.trans H; with_reducible exact H2_) | with_reducible exact H | (rw [hy217]; exact H) | exact H
    have Ny217 := Aside0.mk hy217
    clear hy217
    obtain ⟨y220, hy220⟩ : ∃ y_ : List ByteArray, y_ = (([(⟨#[]⟩ : ByteArray), (⟨#[]⟩ : ByteArray), (⟨#[97, 64, 48, 32, 123, 64, 49, 32, 98, 64, 50, 32, 125, 64, 51, 32]⟩ : ByteArray), (⟨#[57]⟩ : ByteArray), (⟨#[117, 115, 101, 64, 48, 32, 117, 115, 101, 120, 64, 52, 32]⟩ : ByteArray), (⟨#[123, 64, 48, 32, 123, 64, 50, 32]⟩ : ByteArray), (⟨#[48]⟩ : ByteArray), (⟨#[49]⟩ : ByteArray), (⟨#[49]⟩ : ByteArray), (⟨#[50]⟩ : ByteArray), (⟨#[49]⟩ : ByteArray)] : List ByteArray)) := ⟨_, rfl⟩
    replace H : ((deadboltlaw5_within.f a0 (y217.length : Int)).bind fun t223 => (if 0 ≤ t223 then (if t223 < (y217.length : Int) then ((lex_Tokens.f (rdOf ByteArray.empty y217 t223)).bind fun bt225 => (if bt225.2.2 = 0 then (deadboltlaw5_LexKnown.l0 k y220 t223 bt225.1 bt225.2.1 (⟨#[]⟩ : ByteArray) 0) else (if bt225.2.2 = 6 then (if (bt225.1.length : Int) = 0 then (if t223 < (y220.length : Int) then (if (rdOf ByteArray.empty y220 t223).toList = (strOfNums (([(wrap64 (48 + bt225.2.1)) % 256] : List Int))).toList then (some true) else (if t223 = 3 then (some (bt225.2.1 == 3)) else (some false))) else (none)) else (some false)) else (some false)))) else (none)) else (none))) = some r := by first | (rw [hy220]; with_reducible exact H) | (have H2_ := (Option.bind_some _ _).symm.trans H; rw [hy220]; with_reducible exact H2_) | (have H2_ := (Option.bind_some _ _).symm.trans H; with_reducible exact H2_) | with_reducible exact H | (rw [hy220]; exact H) | exact H
    have Ny220 := Aside0.mk hy220
    clear hy220
    replace H := Option.bind_eq_some_iff.mp H
    obtain ⟨t223, A40, H⟩ := H
    replace H : (if 0 ≤ t223 then (if t223 < (y217.length : Int) then ((lex_Tokens.f (rdOf ByteArray.empty y217 t223)).bind fun bt225 => (if bt225.2.2 = 0 then (deadboltlaw5_LexKnown.l0 k y220 t223 bt225.1 bt225.2.1 (⟨#[]⟩ : ByteArray) 0) else (if bt225.2.2 = 6 then (if (bt225.1.length : Int) = 0 then (if t223 < (y220.length : Int) then (if (rdOf ByteArray.empty y220 t223).toList = (strOfNums (([(wrap64 (48 + bt225.2.1)) % 256] : List Int))).toList then (some true) else (if t223 = 3 then (some (bt225.2.1 == 3)) else (some false))) else (none)) else (some false)) else (some false)))) else (none)) else (none)) = some r := H
    have A4 := Aside0.mk A40
    clear A40
    by_cases c5 : 0 ≤ t223
    · rw [if_pos c5] at H
      have c5b0 : decide (0 ≤ t223) = true := decide_eq_true c5
      clear c5
      by_cases c6 : t223 < (y217.length : Int)
      · rw [if_pos c6] at H
        have c6b0 : decide (t223 < (y217.length : Int)) = true := decide_eq_true c6
        clear c6
        replace H := Option.bind_eq_some_iff.mp H
        obtain ⟨⟨t225, t226, t227⟩, A70, H⟩ := H
        replace H : (if t227 = 0 then (deadboltlaw5_LexKnown.l0 k y220 t223 t225 t226 (⟨#[]⟩ : ByteArray) 0) else (if t227 = 6 then (if (t225.length : Int) = 0 then (if t223 < (y220.length : Int) then (if (rdOf ByteArray.empty y220 t223).toList = (strOfNums (([(wrap64 (48 + t226)) % 256] : List Int))).toList then (some true) else (if t223 = 3 then (some (t226 == 3)) else (some false))) else (none)) else (some false)) else (some false))) = some r := H
        have A7 := Aside0.mk A70
        clear A70
        by_cases c8 : t227 = 0
        · rw [if_pos c8] at H
          have c8b0 : (t227 == 0) = true := beq_iff_eq.mpr c8
          have c8b1 : (t227 != 0) = false := bne_eq_false_iff_eq.mpr c8
          clear c8
          have H' := Aside0.mk H
          clear H
          go_enter Tryd.func6, Tryd.ntmps6
          go_wp2_with (first | ((with_reducible refine gate_callee (f := 9) rfl ?_); refine goesL_ (some 12) rfl rfl Tryd.func9 (by kernel_rfl) rfl #[] rfl (by (try simp only [List.map_toArray, List.map_cons, List.map_nil]); first | done | rfl | (simp only [List.length_drop, List.length_take]; rfl)) ?_; (with_reducible refine (deadboltlaw5_known.calls  true _ A2.out (by first | exact HG.out | exact GL.drewN HG.out _ | exact GL.drewN (GL.drewN HG.out _) _ | exact GL.of_below HG.out (by repeat (first | (with_reducible first | exact HB.out | apply below_alloc | apply pw_below_drewN | apply below_drew1) | exact HB.out)))).mono ?_); rintro e w9 ⟨rfl, hb⟩; refine ⟨_, rfl, ?_⟩; have n0_ := Aside0.mk (below_step (by repeat (first | (with_reducible first | exact HB.out | apply below_alloc | apply pw_below_drewN | apply below_drew1) | exact HB.out)) hb); clear HB; have HB := n0_; clear n0_; (try clear hb); (try clear hb2); (try clear hk); (try clear hi)) | ((with_reducible refine gate_dst (N := 14) rfl ?_); (try (refine gate_guard (by rfl) ?_; dsimp only)); refine Kd.R_lit Kd.string _ 9 ?hg (N := 14) ?hd (xs := ([(⟨#[]⟩ : ByteArray), (⟨#[32, 9, 10, 32]⟩ : ByteArray), (⟨#[97, 123, 98, 125]⟩ : ByteArray), (⟨#[120, 57, 32, 57]⟩ : ByteArray), (⟨#[117, 115, 101, 32, 117, 115, 101, 120]⟩ : ByteArray), (⟨#[123, 32, 123]⟩ : ByteArray), (⟨#[65]⟩ : ByteArray), (⟨#[97, 45, 98]⟩ : ByteArray), (⟨#[97, 13]⟩ : ByteArray), (⟨#[97, 98, 0]⟩ : ByteArray), (⟨#[97, 95, 98]⟩ : ByteArray)] : List ByteArray)) (inner := [.string (⟨#[]⟩ : ByteArray), .string (⟨#[32, 9, 10, 32]⟩ : ByteArray), .string (⟨#[97, 123, 98, 125]⟩ : ByteArray), .string (⟨#[120, 57, 32, 57]⟩ : ByteArray), .string (⟨#[117, 115, 101, 32, 117, 115, 101, 120]⟩ : ByteArray), .string (⟨#[123, 32, 123]⟩ : ByteArray), .string (⟨#[65]⟩ : ByteArray), .string (⟨#[97, 45, 98]⟩ : ByteArray), .string (⟨#[97, 13]⟩ : ByteArray), .string (⟨#[97, 98, 0]⟩ : ByteArray), .string (⟨#[97, 95, 98]⟩ : ByteArray)]) (ok := fun _ => True) (okp := fun _ => True) ?hr ?hp (fun _ hk => hk) trivial (Below.refl _ _) (Nat.le_refl _) (by simp) ?_; (case hd => rfl); (case hg => rfl); (case hr => first | (go_simp; done) | (go_simp; rfl)); (case hp => exact (Reps.one (show Kd.M Kd.string _ _ _ (⟨#[]⟩ : ByteArray) [.string (⟨#[]⟩ : ByteArray)] from rfl) (Reps.one (show Kd.M Kd.string _ _ _ (⟨#[32, 9, 10, 32]⟩ : ByteArray) [.string (⟨#[32, 9, 10, 32]⟩ : ByteArray)] from rfl) (Reps.one (show Kd.M Kd.string _ _ _ (⟨#[97, 123, 98, 125]⟩ : ByteArray) [.string (⟨#[97, 123, 98, 125]⟩ : ByteArray)] from rfl) (Reps.one (show Kd.M Kd.string _ _ _ (⟨#[120, 57, 32, 57]⟩ : ByteArray) [.string (⟨#[120, 57, 32, 57]⟩ : ByteArray)] from rfl) (Reps.one (show Kd.M Kd.string _ _ _ (⟨#[117, 115, 101, 32, 117, 115, 101, 120]⟩ : ByteArray) [.string (⟨#[117, 115, 101, 32, 117, 115, 101, 120]⟩ : ByteArray)] from rfl) (Reps.one (show Kd.M Kd.string _ _ _ (⟨#[123, 32, 123]⟩ : ByteArray) [.string (⟨#[123, 32, 123]⟩ : ByteArray)] from rfl) (Reps.one (show Kd.M Kd.string _ _ _ (⟨#[65]⟩ : ByteArray) [.string (⟨#[65]⟩ : ByteArray)] from rfl) (Reps.one (show Kd.M Kd.string _ _ _ (⟨#[97, 45, 98]⟩ : ByteArray) [.string (⟨#[97, 45, 98]⟩ : ByteArray)] from rfl) (Reps.one (show Kd.M Kd.string _ _ _ (⟨#[97, 13]⟩ : ByteArray) [.string (⟨#[97, 13]⟩ : ByteArray)] from rfl) (Reps.one (show Kd.M Kd.string _ _ _ (⟨#[97, 98, 0]⟩ : ByteArray) [.string (⟨#[97, 98, 0]⟩ : ByteArray)] from rfl) (Reps.one (show Kd.M Kd.string _ _ _ (⟨#[97, 95, 98]⟩ : ByteArray) [.string (⟨#[97, 95, 98]⟩ : ByteArray)] from rfl) (Reps.none _ _))))))))))))); intro v218 w10 ho11 hb hg_ hnew_; clear hg_ hnew_; (first | rw [← Ny217.out] at ho11 | (simp only [Int.reduceToNat] at ho11; rw [← Ny217.out] at ho11)); have n0_ := Aside0.mk (Kd.R_lower ho11 (below_size (by repeat (first | (with_reducible first | exact HB.out | apply below_alloc | apply pw_below_drewN | apply below_drew1) | exact HB.out)))); have n1_ := Aside0.mk (below_step (by repeat (first | (with_reducible first | exact HB.out | apply below_alloc | apply pw_below_drewN | apply below_drew1) | exact HB.out)) hb); clear HB; have HO219 := n0_; have HB := n1_; clear n0_ n1_; clear hb ho11) | ((with_reducible refine gate_dst (N := 15) rfl ?_); (try (refine gate_guard (by rfl) ?_; dsimp only)); refine Kd.R_lit Kd.string _ 9 ?hg (N := 15) ?hd (xs := ([(⟨#[]⟩ : ByteArray), (⟨#[]⟩ : ByteArray), (⟨#[97, 64, 48, 32, 123, 64, 49, 32, 98, 64, 50, 32, 125, 64, 51, 32]⟩ : ByteArray), (⟨#[57]⟩ : ByteArray), (⟨#[117, 115, 101, 64, 48, 32, 117, 115, 101, 120, 64, 52, 32]⟩ : ByteArray), (⟨#[123, 64, 48, 32, 123, 64, 50, 32]⟩ : ByteArray), (⟨#[48]⟩ : ByteArray), (⟨#[49]⟩ : ByteArray), (⟨#[49]⟩ : ByteArray), (⟨#[50]⟩ : ByteArray), (⟨#[49]⟩ : ByteArray)] : List ByteArray)) (inner := [.string (⟨#[]⟩ : ByteArray), .string (⟨#[]⟩ : ByteArray), .string (⟨#[97, 64, 48, 32, 123, 64, 49, 32, 98, 64, 50, 32, 125, 64, 51, 32]⟩ : ByteArray), .string (⟨#[57]⟩ : ByteArray), .string (⟨#[117, 115, 101, 64, 48, 32, 117, 115, 101, 120, 64, 52, 32]⟩ : ByteArray), .string (⟨#[123, 64, 48, 32, 123, 64, 50, 32]⟩ : ByteArray), .string (⟨#[48]⟩ : ByteArray), .string (⟨#[49]⟩ : ByteArray), .string (⟨#[49]⟩ : ByteArray), .string (⟨#[50]⟩ : ByteArray), .string (⟨#[49]⟩ : ByteArray)]) (ok := fun _ => True) (okp := fun _ => True) ?hr ?hp (fun _ hk => hk) trivial (Below.refl _ _) (Nat.le_refl _) (by simp) ?_; (case hd => rfl); (case hg => rfl); (case hr => first | (go_simp; done) | (go_simp; rfl)); (case hp => exact (Reps.one (show Kd.M Kd.string _ _ _ (⟨#[]⟩ : ByteArray) [.string (⟨#[]⟩ : ByteArray)] from rfl) (Reps.one (show Kd.M Kd.string _ _ _ (⟨#[]⟩ : ByteArray) [.string (⟨#[]⟩ : ByteArray)] from rfl) (Reps.one (show Kd.M Kd.string _ _ _ (⟨#[97, 64, 48, 32, 123, 64, 49, 32, 98, 64, 50, 32, 125, 64, 51, 32]⟩ : ByteArray) [.string (⟨#[97, 64, 48, 32, 123, 64, 49, 32, 98, 64, 50, 32, 125, 64, 51, 32]⟩ : ByteArray)] from rfl) (Reps.one (show Kd.M Kd.string _ _ _ (⟨#[57]⟩ : ByteArray) [.string (⟨#[57]⟩ : ByteArray)] from rfl) (Reps.one (show Kd.M Kd.string _ _ _ (⟨#[117, 115, 101, 64, 48, 32, 117, 115, 101, 120, 64, 52, 32]⟩ : ByteArray) [.string (⟨#[117, 115, 101, 64, 48, 32, 117, 115, 101, 120, 64, 52, 32]⟩ : ByteArray)] from rfl) (Reps.one (show Kd.M Kd.string _ _ _ (⟨#[123, 64, 48, 32, 123, 64, 50, 32]⟩ : ByteArray) [.string (⟨#[123, 64, 48, 32, 123, 64, 50, 32]⟩ : ByteArray)] from rfl) (Reps.one (show Kd.M Kd.string _ _ _ (⟨#[48]⟩ : ByteArray) [.string (⟨#[48]⟩ : ByteArray)] from rfl) (Reps.one (show Kd.M Kd.string _ _ _ (⟨#[49]⟩ : ByteArray) [.string (⟨#[49]⟩ : ByteArray)] from rfl) (Reps.one (show Kd.M Kd.string _ _ _ (⟨#[49]⟩ : ByteArray) [.string (⟨#[49]⟩ : ByteArray)] from rfl) (Reps.one (show Kd.M Kd.string _ _ _ (⟨#[50]⟩ : ByteArray) [.string (⟨#[50]⟩ : ByteArray)] from rfl) (Reps.one (show Kd.M Kd.string _ _ _ (⟨#[49]⟩ : ByteArray) [.string (⟨#[49]⟩ : ByteArray)] from rfl) (Reps.none _ _))))))))))))); intro v221 w12 ho13 hb hg_ hnew_; clear hg_ hnew_; (first | rw [← Ny220.out] at ho13 | (simp only [Int.reduceToNat] at ho13; rw [← Ny220.out] at ho13)); have n0_ := Aside0.mk (Kd.R_elder' (by (with_reducible repeat (first | apply Kd.R_alloc | apply Kd.R_drewN | apply Kd.R_drew)); exact HO219.out) (Kd.R_base ho13) hb); have n1_ := Aside0.mk (Kd.R_lower (Kd.R_new' ho13 (Kd.R_lt (by (with_reducible repeat (first | apply Kd.R_alloc | apply Kd.R_drewN | apply Kd.R_drew)); exact HO219.out))) (below_size (by repeat (first | (with_reducible first | exact HB.out | apply below_alloc | apply pw_below_drewN | apply below_drew1) | exact HB.out)))); have n2_ := Aside0.mk (below_step (by repeat (first | (with_reducible first | exact HB.out | apply below_alloc | apply pw_below_drewN | apply below_drew1) | exact HB.out)) hb); clear HO219; clear HB; have HO219 := n0_; have HO222 := n1_; have HB := n2_; clear n0_ n1_ n2_; clear hb ho13; obtain ⟨Ao14, co14, eo14⟩ := Kd.R_slice HO219.out; subst eo14) | ((with_reducible refine gate_callee (f := 10) rfl ?_); refine goesL_ (some 19) rfl rfl Tryd.func10 (by kernel_rfl) rfl #[.int .i64 a0, .int .i64 (y217.length : Int)] rfl (by (try simp only [List.map_toArray, List.map_cons, List.map_nil]); first | done | rfl | (simp only [List.length_drop, List.length_take]; rfl)) ?_; (with_reducible refine (deadboltlaw5_within.calls a0 (y217.length : Int) t223 _ A4.out).mono ?_); rintro e w' ⟨rfl, ⟨nd, rfl⟩⟩; refine ⟨_, rfl, ?_⟩; have p224 : 0 ≤ (t223 : Int) := of_decide_eq_true (by first | (with_reducible assumption) | assumption); have q224 : t223 < (y217.length : Int) := of_decide_eq_true (by first | (with_reducible assumption) | assumption); obtain ⟨ad224, e224, hx224_0⟩ := Kd.at_string (Kd.R_reads' HO219.out).2.2 t223 p224 q224; cases e224; replace p224 := eq_true p224; replace q224 := eq_true q224) | ((with_reducible refine gate_callee (f := 12) rfl ?_); refine goesL_ (some 25) rfl rfl Tryd.func12 (by kernel_rfl) rfl #[.string (rdOf ByteArray.empty y217 t223)] rfl (by (try simp only [List.map_toArray, List.map_cons, List.map_nil]); first | done | rfl | (simp only [List.length_drop, List.length_take]; rfl)) ?_; (with_reducible refine (lex_Tokens.calls (rdOf ByteArray.empty y217 t223) t225 t226 t227 _ A7.out).mono ?_); rintro e w15 ⟨v228, rfl, ho0, hb⟩; refine ⟨_, rfl, ?_⟩; have n0_ := Aside0.mk (Kd.R_below (by (with_reducible repeat (first | apply Kd.R_alloc | apply Kd.R_drewN | apply Kd.R_drew)); exact HO219.out) hb); have n1_ := Aside0.mk (Kd.R_below (by (with_reducible repeat (first | apply Kd.R_alloc | apply Kd.R_drewN | apply Kd.R_drew)); exact HO222.out) hb); have n2_ := Aside0.mk (Kd.R_lower ho0 (below_size (by repeat (first | (with_reducible first | exact HB.out | apply below_alloc | apply pw_below_drewN | apply below_drew1) | exact HB.out)))); have n3_ := Aside0.mk (below_step (by repeat (first | (with_reducible first | exact HB.out | apply below_alloc | apply pw_below_drewN | apply below_drew1) | exact HB.out)) hb); clear HO219; clear HO222; clear HB; have HO219 := n0_; have HO222 := n1_; have HO229 := n2_; have HB := n3_; clear n0_ n1_ n2_ n3_; (try clear hb); (try clear hb2); (try clear hk); (try clear hi); (try clear ho0)))
          go_loopg [9, 10] k (fun kq v9 v10 w' => ∃ (x9_1 : ByteArray) (x10_1 : Int), v9 = .string x9_1 ∧ v10 = .int .i64 x10_1 ∧ Aside0 (deadboltlaw5_LexKnown.l0 kq y220 t223 t225 t226 x9_1 x10_1 = some r) ∧ Aside0 (kq ≤ k) ∧ Aside0 (Kd.R Kd.string 9 w' w.heap.size (fun _ => True) v221 y220) ∧ Aside0 (Kd.R k39 39 w' w.heap.size (fun _ => True) v228 t225) ∧ Aside0 (Below w.heap.size w w'))
          case atStart => exact ⟨((⟨#[]⟩ : ByteArray)), (0), (by first | rfl | (simp; done) | (simp [*]; done)), (by first | rfl | (simp; done) | (simp [*]; done)), H', ⟨Nat.le_refl _⟩, ⟨by (with_reducible repeat (first | apply Kd.R_alloc | apply Kd.R_drewN | apply Kd.R_drew)); exact Kd.R_mono HO222.out (fun _ hk => trivial)⟩, ⟨by (with_reducible repeat (first | apply Kd.R_alloc | apply Kd.R_drewN | apply Kd.R_drew)); exact HO229.out⟩, ⟨by repeat (first | (with_reducible first | exact HB.out | apply below_alloc | apply pw_below_drewN | apply below_drew1) | exact HB.out)⟩⟩
          case round =>
            clear H'
            try clear c1
            try clear p2
            try clear q2
            try clear hx2
            try clear c3
            try clear c5
            try clear c5b0
            try clear c6
            try clear c6b0
            try clear p6
            try clear c8
            try clear c8b0
            try clear c8b1
            try clear c9
            try clear c10
            try clear c12
            try clear hx224_0
            try clear p224
            try clear q224
            obtain ⟨x9_1, x10_1, rfl, rfl, HA, HK1, HO_4, HO_6, HB⟩ := hrel
            cases gk with
            | zero => exact absurd HA.out (by simp [deadboltlaw5_LexKnown.l0])
            | succ k1 =>
              have H := HA.out
              clear HA
              simp only [deadboltlaw5_LexKnown.l0] at H
              by_cases c16 : x10_1 < (t225.length : Int)
              · rw [if_pos c16] at H
                have c16b0 : decide (x10_1 < (t225.length : Int)) = true := decide_eq_true c16
                clear c16
                by_cases c17 : 0 ≤ x10_1
                · rw [if_pos c17] at H
                  have c17b0 : decide (0 ≤ x10_1) = true := decide_eq_true c17
                  clear c17
                  by_cases c18 : ((rd_T39 t225 x10_1).f0) = 1
                  · rw [if_pos c18] at H
                    have c18b0 : (((rd_T39 t225 x10_1).f0) == 1) = true := beq_iff_eq.mpr c18
                    have c18b1 : (((rd_T39 t225 x10_1).f0) != 1) = false := bne_eq_false_iff_eq.mpr c18
                    clear c18
                    by_cases c19 : x9_1.size + ((rd_T39 t225 x10_1).f2).size ≤ 9223372036854775807
                    · rw [if_pos c19] at H
                      have c19b0 := eq_true c19
                      have c19b1 : decide (x9_1.size + ((rd_T39 t225 x10_1).f2).size ≤ 9223372036854775807) = true := decide_eq_true c19
                      try have c19b2 : (9223372036854775807 < x9_1.size + ((rd_T39 t225 x10_1).f2).size) = False := eq_false (Nat.not_lt.2 c19)
                      by_cases c20 : (x9_1 ++ ((rd_T39 t225 x10_1).f2)).size + 1 ≤ 9223372036854775807
                      · rw [if_pos c20] at H
                        have c20b0 := eq_true c20
                        have c20b1 : decide ((x9_1 ++ ((rd_T39 t225 x10_1).f2)).size + 1 ≤ 9223372036854775807) = true := decide_eq_true c20
                        (try (have c20t1 : decide (x9_1.size + ((rd_T39 t225 x10_1).f2).size + 1 ≤ 9223372036854775807) = true := by have h_ := c20b1; simp only [ByteArray.size_append] at h_; exact h_))
                        try have c20b2 : (9223372036854775807 < (x9_1 ++ ((rd_T39 t225 x10_1).f2)).size + 1) = False := eq_false (Nat.not_lt.2 c20)
                        (try (have c20t2 : (9223372036854775807 < x9_1.size + ((rd_T39 t225 x10_1).f2).size + 1) = False := by have h_ := c20b2; simp only [ByteArray.size_append] at h_; exact h_))
                        obtain ⟨y237, hy237⟩ : ∃ y_ : List Int, y_ = (([(wrap64 (48 + ((rd_T39 t225 x10_1).f1))) % 256] : List Int)) := ⟨_, rfl⟩
                        replace H : (if ((x9_1 ++ ((rd_T39 t225 x10_1).f2)) ++ (⟨#[64]⟩ : ByteArray)).size + (strOfNums y237).size ≤ 9223372036854775807 then (if (((x9_1 ++ ((rd_T39 t225 x10_1).f2)) ++ (⟨#[64]⟩ : ByteArray)) ++ (strOfNums y237)).size + 1 ≤ 9223372036854775807 then (deadboltlaw5_LexKnown.l0 k1 y220 t223 t225 t226 ((((x9_1 ++ ((rd_T39 t225 x10_1).f2)) ++ (⟨#[64]⟩ : ByteArray)) ++ (strOfNums y237)) ++ (⟨#[32]⟩ : ByteArray)) (wrap64 (x10_1 + 1))) else (none)) else (none)) = some r := by first | (rw [hy237]; with_reducible exact H) | (have H2_ := (Option.bind_some _ _).symm.trans H; rw [hy237]; with_reducible exact H2_) | (have H2_ := (Option.bind_some _ _).symm.trans H; with_reducible exact H2_) | with_reducible exact H | (rw [hy237]; exact H) | exact H
                        have Ny237 := Aside0.mk hy237
                        clear hy237
                        by_cases c21 : ((x9_1 ++ ((rd_T39 t225 x10_1).f2)) ++ (⟨#[64]⟩ : ByteArray)).size + (strOfNums y237).size ≤ 9223372036854775807
                        · rw [if_pos c21] at H
                          have c21b0 := eq_true c21
                          have c21b1 : decide (((x9_1 ++ ((rd_T39 t225 x10_1).f2)) ++ (⟨#[64]⟩ : ByteArray)).size + (strOfNums y237).size ≤ 9223372036854775807) = true := decide_eq_true c21
                          (try (have c21t1 : decide (x9_1.size + ((rd_T39 t225 x10_1).f2).size + 1 + (strOfNums y237).size ≤ 9223372036854775807) = true := by have h_ := c21b1; simp only [ByteArray.size_append] at h_; exact h_))
                          try have c21b2 : (9223372036854775807 < ((x9_1 ++ ((rd_T39 t225 x10_1).f2)) ++ (⟨#[64]⟩ : ByteArray)).size + (strOfNums y237).size) = False := eq_false (Nat.not_lt.2 c21)
                          (try (have c21t2 : (9223372036854775807 < x9_1.size + ((rd_T39 t225 x10_1).f2).size + 1 + (strOfNums y237).size) = False := by have h_ := c21b2; simp only [ByteArray.size_append] at h_; exact h_))
                          by_cases c22 : (((x9_1 ++ ((rd_T39 t225 x10_1).f2)) ++ (⟨#[64]⟩ : ByteArray)) ++ (strOfNums y237)).size + 1 ≤ 9223372036854775807
                          · rw [if_pos c22] at H
                            have c22b0 := eq_true c22
                            have c22b1 : decide ((((x9_1 ++ ((rd_T39 t225 x10_1).f2)) ++ (⟨#[64]⟩ : ByteArray)) ++ (strOfNums y237)).size + 1 ≤ 9223372036854775807) = true := decide_eq_true c22
                            (try (have c22t1 : decide (x9_1.size + ((rd_T39 t225 x10_1).f2).size + 1 + (strOfNums y237).size + 1 ≤ 9223372036854775807) = true := by have h_ := c22b1; simp only [ByteArray.size_append] at h_; exact h_))
                            try have c22b2 : (9223372036854775807 < (((x9_1 ++ ((rd_T39 t225 x10_1).f2)) ++ (⟨#[64]⟩ : ByteArray)) ++ (strOfNums y237)).size + 1) = False := eq_false (Nat.not_lt.2 c22)
                            (try (have c22t2 : (9223372036854775807 < x9_1.size + ((rd_T39 t225 x10_1).f2).size + 1 + (strOfNums y237).size + 1) = False := by have h_ := c22b2; simp only [ByteArray.size_append] at h_; exact h_))
                            have H' := Aside0.mk H
                            clear H
                            obtain ⟨Ao23, co23, eo23⟩ := Kd.R_slice HO_6.out
                            subst eo23
                            have p234 : 0 ≤ (x10_1 : Int) := of_decide_eq_true (by first | (with_reducible assumption) | assumption)
                            have q234 : x10_1 < (t225.length : Int) := of_decide_eq_true (by first | (with_reducible assumption) | assumption)
                            obtain ⟨ad234, e234, hx234_0, hx234_1, hx234_2⟩ := at_T39 (Kd.R_reads' HO_6.out).2.2 x10_1 p234 q234
                            cases e234
                            replace p234 := eq_true p234
                            replace q234 := eq_true q234
                            have p235 : 0 ≤ (x10_1 : Int) := of_decide_eq_true (by first | (with_reducible assumption) | assumption)
                            have q235 : x10_1 < (t225.length : Int) := of_decide_eq_true (by first | (with_reducible assumption) | assumption)
                            obtain ⟨ad235, e235, hx235_0, hx235_1, hx235_2⟩ := at_T39 (Kd.R_reads' HO_6.out).2.2 x10_1 p235 q235
                            obtain rfl : ad234 = ad235 := (by injection e235)
                            replace p235 := eq_true p235
                            replace q235 := eq_true q235
                            have p236 : 0 ≤ (x10_1 : Int) := of_decide_eq_true (by first | (with_reducible assumption) | assumption)
                            have q236 : x10_1 < (t225.length : Int) := of_decide_eq_true (by first | (with_reducible assumption) | assumption)
                            obtain ⟨ad236, e236, hx236_0, hx236_1, hx236_2⟩ := at_T39 (Kd.R_reads' HO_6.out).2.2 x10_1 p236 q236
                            obtain rfl : ad234 = ad236 := (by injection e236)
                            replace p236 := eq_true p236
                            replace q236 := eq_true q236
                            go_wp2_with (first | ((with_reducible refine gate_dst (N := 99) rfl ?_); (try (refine gate_guard (by rfl) ?_; dsimp only)); refine Kd.R_lit (Kd.int .u8) _ 5 ?hg (N := 99) ?hd (xs := ([(wrap64 (48 + ((rd_T39 t225 x10_1).f1))) % 256] : List Int)) (inner := [.int .u8 ((wrap64 (48 + ((rd_T39 t225 x10_1).f1))) % 256)]) (ok := fun _ => True) (okp := fun _ => True) ?hr ?hp (fun _ hk => hk) trivial (Below.refl _ _) (Nat.le_refl _) (by simp) ?_; (case hd => rfl); (case hg => rfl); (case hr => first | (go_simp; done) | (go_simp; rfl)); (case hp => exact (Reps.one (show Kd.M (Kd.int .u8) _ _ _ ((wrap64 (48 + ((rd_T39 t225 x10_1).f1))) % 256) [.int .u8 ((wrap64 (48 + ((rd_T39 t225 x10_1).f1))) % 256)] from rfl) (Reps.none _ _))); intro v238 w24 ho25 hb hg_ hnew_; clear hg_ hnew_; (first | rw [← Ny237.out] at ho25 | (simp only [Int.reduceToNat] at ho25; rw [← Ny237.out] at ho25)); have n0_ := Aside0.mk (Kd.R_below (by (with_reducible repeat (first | apply Kd.R_alloc | apply Kd.R_drewN | apply Kd.R_drew)); exact HO_4.out) hb); have n1_ := Aside0.mk (Kd.R_below (by (with_reducible repeat (first | apply Kd.R_alloc | apply Kd.R_drewN | apply Kd.R_drew)); exact HO_6.out) hb); have n2_ := Aside0.mk (Kd.R_lower ho25 (below_size (by repeat (first | (with_reducible first | exact HB.out | apply below_alloc | apply pw_below_drewN | apply below_drew1) | exact HB.out)))); have n3_ := Aside0.mk (below_step (by repeat (first | (with_reducible first | exact HB.out | apply below_alloc | apply pw_below_drewN | apply below_drew1) | exact HB.out)) hb); clear HO_4; clear HO_6; clear HB; have HO_4 := n0_; have HO_6 := n1_; have HO239 := n2_; have HB := n3_; clear n0_ n1_ n2_ n3_; clear hb ho25; have hcv26 := own_string (P := Tryd.prog) Tryd.underlying24 Tryd.underlying5 Tryd.underlying9 (Kd.own_of_R HO239.out)))
                            go_roundg k1
                            case measure => have := HK1.out; omega
                            case rel => exact ⟨((((x9_1 ++ ((rd_T39 t225 x10_1).f2)) ++ (⟨#[64]⟩ : ByteArray)) ++ (strOfNums y237)) ++ (⟨#[32]⟩ : ByteArray)), (wrap64 (x10_1 + 1)), (by first | rfl | (simp; done) | (simp [*]; done)), (by first | rfl | (simp; done) | (simp [*]; done)), H', ⟨by have := HK1.out; omega⟩, ⟨by (with_reducible repeat (first | apply Kd.R_alloc | apply Kd.R_drewN | apply Kd.R_drew)); exact HO_4.out⟩, ⟨by (with_reducible repeat (first | apply Kd.R_alloc | apply Kd.R_drewN | apply Kd.R_drew)); exact HO_6.out⟩, ⟨by repeat (first | (with_reducible first | exact HB.out | apply below_alloc | apply pw_below_drewN | apply below_drew1) | exact HB.out)⟩⟩
                          · rw [if_neg c22] at H
                            exact absurd H (by simp)
                        · rw [if_neg c21] at H
                          exact absurd H (by simp)
                      · rw [if_neg c20] at H
                        exact absurd H (by simp)
                    · rw [if_neg c19] at H
                      exact absurd H (by simp)
                  · rw [if_neg c18] at H
                    have c18b0 : (((rd_T39 t225 x10_1).f0) == 1) = false := beq_eq_false_iff_ne.mpr c18
                    have c18b1 : (((rd_T39 t225 x10_1).f0) != 1) = true := bne_iff_ne.mpr c18
                    obtain ⟨ji27, hji27⟩ : ∃ j_ : Int, (wrap64 (((rd_T39 t225 x10_1).f0) - 2)) = j_ := ⟨_, rfl⟩
                    replace H : (if 0 ≤ (ji27) then (if (ji27) ≤ (wrap64 (((rd_T39 t225 x10_1).f0) - 1)) then (if (wrap64 (((rd_T39 t225 x10_1).f0) - 1)) ≤ 2 then (if x9_1.size + ((⟨#[123, 125]⟩ : ByteArray).extract ((ji27) : Int).toNat ((wrap64 (((rd_T39 t225 x10_1).f0) - 1)) : Int).toNat).size ≤ 9223372036854775807 then (if (x9_1 ++ ((⟨#[123, 125]⟩ : ByteArray).extract ((ji27) : Int).toNat ((wrap64 (((rd_T39 t225 x10_1).f0) - 1)) : Int).toNat)).size + 1 ≤ 9223372036854775807 then ((some (([(wrap64 (48 + ((rd_T39 t225 x10_1).f1))) % 256] : List Int) : List Int)).bind fun y243 => (if ((x9_1 ++ ((⟨#[123, 125]⟩ : ByteArray).extract ((ji27) : Int).toNat ((wrap64 (((rd_T39 t225 x10_1).f0) - 1)) : Int).toNat)) ++ (⟨#[64]⟩ : ByteArray)).size + (strOfNums y243).size ≤ 9223372036854775807 then (if (((x9_1 ++ ((⟨#[123, 125]⟩ : ByteArray).extract ((ji27) : Int).toNat ((wrap64 (((rd_T39 t225 x10_1).f0) - 1)) : Int).toNat)) ++ (⟨#[64]⟩ : ByteArray)) ++ (strOfNums y243)).size + 1 ≤ 9223372036854775807 then (deadboltlaw5_LexKnown.l0 k1 y220 t223 t225 t226 ((((x9_1 ++ ((⟨#[123, 125]⟩ : ByteArray).extract ((ji27) : Int).toNat ((wrap64 (((rd_T39 t225 x10_1).f0) - 1)) : Int).toNat)) ++ (⟨#[64]⟩ : ByteArray)) ++ (strOfNums y243)) ++ (⟨#[32]⟩ : ByteArray)) (wrap64 (x10_1 + 1))) else (none)) else (none))) else (none)) else (none)) else (none)) else (none)) else (none)) = some r := by first | (rw [hji27] at H; exact H) | (simp only [hji27] at H ⊢; exact H)
                    have hji27w : (IntKind.i64.wrap (((rd_T39 t225 x10_1).f0) - 2)) = ji27 := (i64_w _).trans hji27
                    by_cases c28 : 0 ≤ (ji27)
                    · rw [if_pos c28] at H
                      have c28b0 := eq_true c28
                      have c28b1 : decide (0 ≤ (ji27)) = true := decide_eq_true c28
                      clear c28
                      by_cases c29 : (ji27) ≤ (wrap64 (((rd_T39 t225 x10_1).f0) - 1))
                      · rw [if_pos c29] at H
                        have c29b0 := eq_true c29
                        have c29b1 : decide ((ji27) ≤ (wrap64 (((rd_T39 t225 x10_1).f0) - 1))) = true := decide_eq_true c29
                        (try (have c29u1_0 : decide ((ji27) ≤ ((((rd_T39 t225 x10_1).f0) - 1))) = true := by have h_ := c29b1; rwa [show wrap64 (((rd_T39 t225 x10_1).f0) - 1) = (((rd_T39 t225 x10_1).f0) - 1) from by unfold wrap64; omega] at h_))
                        clear c29
                        by_cases c30 : (wrap64 (((rd_T39 t225 x10_1).f0) - 1)) ≤ 2
                        · rw [if_pos c30] at H
                          have c30b0 := eq_true c30
                          have c30b1 : decide ((wrap64 (((rd_T39 t225 x10_1).f0) - 1)) ≤ 2) = true := decide_eq_true c30
                          (try (have c30u1_0 : decide (((((rd_T39 t225 x10_1).f0) - 1)) ≤ 2) = true := by have h_ := c30b1; rwa [show wrap64 (((rd_T39 t225 x10_1).f0) - 1) = (((rd_T39 t225 x10_1).f0) - 1) from by unfold wrap64; omega] at h_))
                          clear c30
                          by_cases c31 : x9_1.size + ((⟨#[123, 125]⟩ : ByteArray).extract ((ji27) : Int).toNat ((wrap64 (((rd_T39 t225 x10_1).f0) - 1)) : Int).toNat).size ≤ 9223372036854775807
                          · rw [if_pos c31] at H
                            have c31b0 := eq_true c31
                            have c31b1 : decide (x9_1.size + ((⟨#[123, 125]⟩ : ByteArray).extract ((ji27) : Int).toNat ((wrap64 (((rd_T39 t225 x10_1).f0) - 1)) : Int).toNat).size ≤ 9223372036854775807) = true := decide_eq_true c31
                            (try (have c31x1 : decide (x9_1.size + (((wrap64 (((rd_T39 t225 x10_1).f0) - 1)) : Int).toNat - ((ji27) : Int).toNat) ≤ 9223372036854775807) = true := by have h_ := c31b1; rw [cut_size (⟨#[123, 125]⟩ : ByteArray) ((ji27) : Int).toNat ((wrap64 (((rd_T39 t225 x10_1).f0) - 1)) : Int).toNat (toNat_le (n := 2) (of_decide_eq_true (by assumption : decide ((wrap64 (((rd_T39 t225 x10_1).f0) - 1)) ≤ 2) = true)))] at h_; exact h_))
                            (try (have c31u1_0 : decide (x9_1.size + ((⟨#[123, 125]⟩ : ByteArray).extract ((ji27) : Int).toNat (((((rd_T39 t225 x10_1).f0) - 1)) : Int).toNat).size ≤ 9223372036854775807) = true := by have h_ := c31b1; rwa [show wrap64 (((rd_T39 t225 x10_1).f0) - 1) = (((rd_T39 t225 x10_1).f0) - 1) from by unfold wrap64; omega] at h_))
                            try have c31b2 : (9223372036854775807 < x9_1.size + ((⟨#[123, 125]⟩ : ByteArray).extract ((ji27) : Int).toNat ((wrap64 (((rd_T39 t225 x10_1).f0) - 1)) : Int).toNat).size) = False := eq_false (Nat.not_lt.2 c31)
                            (try (have c31x2 : (9223372036854775807 < x9_1.size + (((wrap64 (((rd_T39 t225 x10_1).f0) - 1)) : Int).toNat - ((ji27) : Int).toNat)) = False := by have h_ := c31b2; rw [cut_size (⟨#[123, 125]⟩ : ByteArray) ((ji27) : Int).toNat ((wrap64 (((rd_T39 t225 x10_1).f0) - 1)) : Int).toNat (toNat_le (n := 2) (of_decide_eq_true (by assumption : decide ((wrap64 (((rd_T39 t225 x10_1).f0) - 1)) ≤ 2) = true)))] at h_; exact h_))
                            (try (have c31u2_0 : (9223372036854775807 < x9_1.size + ((⟨#[123, 125]⟩ : ByteArray).extract ((ji27) : Int).toNat (((((rd_T39 t225 x10_1).f0) - 1)) : Int).toNat).size) = False := by have h_ := c31b2; rwa [show wrap64 (((rd_T39 t225 x10_1).f0) - 1) = (((rd_T39 t225 x10_1).f0) - 1) from by unfold wrap64; omega] at h_))
                            by_cases c32 : (x9_1 ++ ((⟨#[123, 125]⟩ : ByteArray).extract ((ji27) : Int).toNat ((wrap64 (((rd_T39 t225 x10_1).f0) - 1)) : Int).toNat)).size + 1 ≤ 9223372036854775807
                            · rw [if_pos c32] at H
                              have c32b0 := eq_true c32
                              have c32b1 : decide ((x9_1 ++ ((⟨#[123, 125]⟩ : ByteArray).extract ((ji27) : Int).toNat ((wrap64 (((rd_T39 t225 x10_1).f0) - 1)) : Int).toNat)).size + 1 ≤ 9223372036854775807) = true := decide_eq_true c32
                              (try (have c32t1 : decide (x9_1.size + ((⟨#[123, 125]⟩ : ByteArray).extract ((ji27) : Int).toNat ((wrap64 (((rd_T39 t225 x10_1).f0) - 1)) : Int).toNat).size + 1 ≤ 9223372036854775807) = true := by have h_ := c32b1; simp only [ByteArray.size_append] at h_; exact h_))
                              (try (have c32x1 : decide (x9_1.size + (((wrap64 (((rd_T39 t225 x10_1).f0) - 1)) : Int).toNat - ((ji27) : Int).toNat) + 1 ≤ 9223372036854775807) = true := by have h_ := c32t1; rw [cut_size (⟨#[123, 125]⟩ : ByteArray) ((ji27) : Int).toNat ((wrap64 (((rd_T39 t225 x10_1).f0) - 1)) : Int).toNat (toNat_le (n := 2) (of_decide_eq_true (by assumption : decide ((wrap64 (((rd_T39 t225 x10_1).f0) - 1)) ≤ 2) = true)))] at h_; exact h_))
                              (try (have c32u1_0 : decide ((x9_1 ++ ((⟨#[123, 125]⟩ : ByteArray).extract ((ji27) : Int).toNat (((((rd_T39 t225 x10_1).f0) - 1)) : Int).toNat)).size + 1 ≤ 9223372036854775807) = true := by have h_ := c32b1; rwa [show wrap64 (((rd_T39 t225 x10_1).f0) - 1) = (((rd_T39 t225 x10_1).f0) - 1) from by unfold wrap64; omega] at h_))
                              try have c32b2 : (9223372036854775807 < (x9_1 ++ ((⟨#[123, 125]⟩ : ByteArray).extract ((ji27) : Int).toNat ((wrap64 (((rd_T39 t225 x10_1).f0) - 1)) : Int).toNat)).size + 1) = False := eq_false (Nat.not_lt.2 c32)
                              (try (have c32t2 : (9223372036854775807 < x9_1.size + ((⟨#[123, 125]⟩ : ByteArray).extract ((ji27) : Int).toNat ((wrap64 (((rd_T39 t225 x10_1).f0) - 1)) : Int).toNat).size + 1) = False := by have h_ := c32b2; simp only [ByteArray.size_append] at h_; exact h_))
                              (try (have c32x2 : (9223372036854775807 < x9_1.size + (((wrap64 (((rd_T39 t225 x10_1).f0) - 1)) : Int).toNat - ((ji27) : Int).toNat) + 1) = False := by have h_ := c32t2; rw [cut_size (⟨#[123, 125]⟩ : ByteArray) ((ji27) : Int).toNat ((wrap64 (((rd_T39 t225 x10_1).f0) - 1)) : Int).toNat (toNat_le (n := 2) (of_decide_eq_true (by assumption : decide ((wrap64 (((rd_T39 t225 x10_1).f0) - 1)) ≤ 2) = true)))] at h_; exact h_))
                              (try (have c32u2_0 : (9223372036854775807 < (x9_1 ++ ((⟨#[123, 125]⟩ : ByteArray).extract ((ji27) : Int).toNat (((((rd_T39 t225 x10_1).f0) - 1)) : Int).toNat)).size + 1) = False := by have h_ := c32b2; rwa [show wrap64 (((rd_T39 t225 x10_1).f0) - 1) = (((rd_T39 t225 x10_1).f0) - 1) from by unfold wrap64; omega] at h_))
                              obtain ⟨y243, hy243⟩ : ∃ y_ : List Int, y_ = (([(wrap64 (48 + ((rd_T39 t225 x10_1).f1))) % 256] : List Int)) := ⟨_, rfl⟩
                              replace H : (if ((x9_1 ++ ((⟨#[123, 125]⟩ : ByteArray).extract ((ji27) : Int).toNat ((wrap64 (((rd_T39 t225 x10_1).f0) - 1)) : Int).toNat)) ++ (⟨#[64]⟩ : ByteArray)).size + (strOfNums y243).size ≤ 9223372036854775807 then (if (((x9_1 ++ ((⟨#[123, 125]⟩ : ByteArray).extract ((ji27) : Int).toNat ((wrap64 (((rd_T39 t225 x10_1).f0) - 1)) : Int).toNat)) ++ (⟨#[64]⟩ : ByteArray)) ++ (strOfNums y243)).size + 1 ≤ 9223372036854775807 then (deadboltlaw5_LexKnown.l0 k1 y220 t223 t225 t226 ((((x9_1 ++ ((⟨#[123, 125]⟩ : ByteArray).extract ((ji27) : Int).toNat ((wrap64 (((rd_T39 t225 x10_1).f0) - 1)) : Int).toNat)) ++ (⟨#[64]⟩ : ByteArray)) ++ (strOfNums y243)) ++ (⟨#[32]⟩ : ByteArray)) (wrap64 (x10_1 + 1))) else (none)) else (none)) = some r := by first | (rw [hy243]; with_reducible exact H) | (have H2_ := (Option.bind_some _ _).symm.trans H; rw [hy243]; with_reducible exact H2_) | (have H2_ := (Option.bind_some _ _).symm.trans H; with_reducible exact H2_) | with_reducible exact H | (rw [hy243]; exact H) | exact H
                              have Ny243 := Aside0.mk hy243
                              clear hy243
                              by_cases c33 : ((x9_1 ++ ((⟨#[123, 125]⟩ : ByteArray).extract ((ji27) : Int).toNat ((wrap64 (((rd_T39 t225 x10_1).f0) - 1)) : Int).toNat)) ++ (⟨#[64]⟩ : ByteArray)).size + (strOfNums y243).size ≤ 9223372036854775807
                              · rw [if_pos c33] at H
                                have c33b0 := eq_true c33
                                have c33b1 : decide (((x9_1 ++ ((⟨#[123, 125]⟩ : ByteArray).extract ((ji27) : Int).toNat ((wrap64 (((rd_T39 t225 x10_1).f0) - 1)) : Int).toNat)) ++ (⟨#[64]⟩ : ByteArray)).size + (strOfNums y243).size ≤ 9223372036854775807) = true := decide_eq_true c33
                                (try (have c33t1 : decide (x9_1.size + ((⟨#[123, 125]⟩ : ByteArray).extract ((ji27) : Int).toNat ((wrap64 (((rd_T39 t225 x10_1).f0) - 1)) : Int).toNat).size + 1 + (strOfNums y243).size ≤ 9223372036854775807) = true := by have h_ := c33b1; simp only [ByteArray.size_append] at h_; exact h_))
                                (try (have c33x1 : decide (x9_1.size + (((wrap64 (((rd_T39 t225 x10_1).f0) - 1)) : Int).toNat - ((ji27) : Int).toNat) + 1 + (strOfNums y243).size ≤ 9223372036854775807) = true := by have h_ := c33t1; rw [cut_size (⟨#[123, 125]⟩ : ByteArray) ((ji27) : Int).toNat ((wrap64 (((rd_T39 t225 x10_1).f0) - 1)) : Int).toNat (toNat_le (n := 2) (of_decide_eq_true (by assumption : decide ((wrap64 (((rd_T39 t225 x10_1).f0) - 1)) ≤ 2) = true)))] at h_; exact h_))
                                (try (have c33u1_0 : decide (((x9_1 ++ ((⟨#[123, 125]⟩ : ByteArray).extract ((ji27) : Int).toNat (((((rd_T39 t225 x10_1).f0) - 1)) : Int).toNat)) ++ (⟨#[64]⟩ : ByteArray)).size + (strOfNums y243).size ≤ 9223372036854775807) = true := by have h_ := c33b1; rwa [show wrap64 (((rd_T39 t225 x10_1).f0) - 1) = (((rd_T39 t225 x10_1).f0) - 1) from by unfold wrap64; omega] at h_))
                                try have c33b2 : (9223372036854775807 < ((x9_1 ++ ((⟨#[123, 125]⟩ : ByteArray).extract ((ji27) : Int).toNat ((wrap64 (((rd_T39 t225 x10_1).f0) - 1)) : Int).toNat)) ++ (⟨#[64]⟩ : ByteArray)).size + (strOfNums y243).size) = False := eq_false (Nat.not_lt.2 c33)
                                (try (have c33t2 : (9223372036854775807 < x9_1.size + ((⟨#[123, 125]⟩ : ByteArray).extract ((ji27) : Int).toNat ((wrap64 (((rd_T39 t225 x10_1).f0) - 1)) : Int).toNat).size + 1 + (strOfNums y243).size) = False := by have h_ := c33b2; simp only [ByteArray.size_append] at h_; exact h_))
                                (try (have c33x2 : (9223372036854775807 < x9_1.size + (((wrap64 (((rd_T39 t225 x10_1).f0) - 1)) : Int).toNat - ((ji27) : Int).toNat) + 1 + (strOfNums y243).size) = False := by have h_ := c33t2; rw [cut_size (⟨#[123, 125]⟩ : ByteArray) ((ji27) : Int).toNat ((wrap64 (((rd_T39 t225 x10_1).f0) - 1)) : Int).toNat (toNat_le (n := 2) (of_decide_eq_true (by assumption : decide ((wrap64 (((rd_T39 t225 x10_1).f0) - 1)) ≤ 2) = true)))] at h_; exact h_))
                                (try (have c33u2_0 : (9223372036854775807 < ((x9_1 ++ ((⟨#[123, 125]⟩ : ByteArray).extract ((ji27) : Int).toNat (((((rd_T39 t225 x10_1).f0) - 1)) : Int).toNat)) ++ (⟨#[64]⟩ : ByteArray)).size + (strOfNums y243).size) = False := by have h_ := c33b2; rwa [show wrap64 (((rd_T39 t225 x10_1).f0) - 1) = (((rd_T39 t225 x10_1).f0) - 1) from by unfold wrap64; omega] at h_))
                                by_cases c34 : (((x9_1 ++ ((⟨#[123, 125]⟩ : ByteArray).extract ((ji27) : Int).toNat ((wrap64 (((rd_T39 t225 x10_1).f0) - 1)) : Int).toNat)) ++ (⟨#[64]⟩ : ByteArray)) ++ (strOfNums y243)).size + 1 ≤ 9223372036854775807
                                · rw [if_pos c34] at H
                                  have c34b0 := eq_true c34
                                  have c34b1 : decide ((((x9_1 ++ ((⟨#[123, 125]⟩ : ByteArray).extract ((ji27) : Int).toNat ((wrap64 (((rd_T39 t225 x10_1).f0) - 1)) : Int).toNat)) ++ (⟨#[64]⟩ : ByteArray)) ++ (strOfNums y243)).size + 1 ≤ 9223372036854775807) = true := decide_eq_true c34
                                  (try (have c34t1 : decide (x9_1.size + ((⟨#[123, 125]⟩ : ByteArray).extract ((ji27) : Int).toNat ((wrap64 (((rd_T39 t225 x10_1).f0) - 1)) : Int).toNat).size + 1 + (strOfNums y243).size + 1 ≤ 9223372036854775807) = true := by have h_ := c34b1; simp only [ByteArray.size_append] at h_; exact h_))
                                  (try (have c34x1 : decide (x9_1.size + (((wrap64 (((rd_T39 t225 x10_1).f0) - 1)) : Int).toNat - ((ji27) : Int).toNat) + 1 + (strOfNums y243).size + 1 ≤ 9223372036854775807) = true := by have h_ := c34t1; rw [cut_size (⟨#[123, 125]⟩ : ByteArray) ((ji27) : Int).toNat ((wrap64 (((rd_T39 t225 x10_1).f0) - 1)) : Int).toNat (toNat_le (n := 2) (of_decide_eq_true (by assumption : decide ((wrap64 (((rd_T39 t225 x10_1).f0) - 1)) ≤ 2) = true)))] at h_; exact h_))
                                  (try (have c34u1_0 : decide ((((x9_1 ++ ((⟨#[123, 125]⟩ : ByteArray).extract ((ji27) : Int).toNat (((((rd_T39 t225 x10_1).f0) - 1)) : Int).toNat)) ++ (⟨#[64]⟩ : ByteArray)) ++ (strOfNums y243)).size + 1 ≤ 9223372036854775807) = true := by have h_ := c34b1; rwa [show wrap64 (((rd_T39 t225 x10_1).f0) - 1) = (((rd_T39 t225 x10_1).f0) - 1) from by unfold wrap64; omega] at h_))
                                  try have c34b2 : (9223372036854775807 < (((x9_1 ++ ((⟨#[123, 125]⟩ : ByteArray).extract ((ji27) : Int).toNat ((wrap64 (((rd_T39 t225 x10_1).f0) - 1)) : Int).toNat)) ++ (⟨#[64]⟩ : ByteArray)) ++ (strOfNums y243)).size + 1) = False := eq_false (Nat.not_lt.2 c34)
                                  (try (have c34t2 : (9223372036854775807 < x9_1.size + ((⟨#[123, 125]⟩ : ByteArray).extract ((ji27) : Int).toNat ((wrap64 (((rd_T39 t225 x10_1).f0) - 1)) : Int).toNat).size + 1 + (strOfNums y243).size + 1) = False := by have h_ := c34b2; simp only [ByteArray.size_append] at h_; exact h_))
                                  (try (have c34x2 : (9223372036854775807 < x9_1.size + (((wrap64 (((rd_T39 t225 x10_1).f0) - 1)) : Int).toNat - ((ji27) : Int).toNat) + 1 + (strOfNums y243).size + 1) = False := by have h_ := c34t2; rw [cut_size (⟨#[123, 125]⟩ : ByteArray) ((ji27) : Int).toNat ((wrap64 (((rd_T39 t225 x10_1).f0) - 1)) : Int).toNat (toNat_le (n := 2) (of_decide_eq_true (by assumption : decide ((wrap64 (((rd_T39 t225 x10_1).f0) - 1)) ≤ 2) = true)))] at h_; exact h_))
                                  (try (have c34u2_0 : (9223372036854775807 < (((x9_1 ++ ((⟨#[123, 125]⟩ : ByteArray).extract ((ji27) : Int).toNat (((((rd_T39 t225 x10_1).f0) - 1)) : Int).toNat)) ++ (⟨#[64]⟩ : ByteArray)) ++ (strOfNums y243)).size + 1) = False := by have h_ := c34b2; rwa [show wrap64 (((rd_T39 t225 x10_1).f0) - 1) = (((rd_T39 t225 x10_1).f0) - 1) from by unfold wrap64; omega] at h_))
                                  have H' := Aside0.mk H
                                  clear H
                                  obtain ⟨Ao35, co35, eo35⟩ := Kd.R_slice HO_6.out
                                  subst eo35
                                  have p234 : 0 ≤ (x10_1 : Int) := of_decide_eq_true (by first | (with_reducible assumption) | assumption)
                                  have q234 : x10_1 < (t225.length : Int) := of_decide_eq_true (by first | (with_reducible assumption) | assumption)
                                  obtain ⟨ad234, e234, hx234_0, hx234_1, hx234_2⟩ := at_T39 (Kd.R_reads' HO_6.out).2.2 x10_1 p234 q234
                                  cases e234
                                  replace p234 := eq_true p234
                                  replace q234 := eq_true q234
                                  have p235 : 0 ≤ (x10_1 : Int) := of_decide_eq_true (by first | (with_reducible assumption) | assumption)
                                  have q235 : x10_1 < (t225.length : Int) := of_decide_eq_true (by first | (with_reducible assumption) | assumption)
                                  obtain ⟨ad235, e235, hx235_0, hx235_1, hx235_2⟩ := at_T39 (Kd.R_reads' HO_6.out).2.2 x10_1 p235 q235
                                  obtain rfl : ad234 = ad235 := (by injection e235)
                                  replace p235 := eq_true p235
                                  replace q235 := eq_true q235
                                  try go_wp2
                                  have n0_ := Aside0.mk (Kd.R_drew HO_4.out)
                                  have n1_ := Aside0.mk (Kd.R_drew HO_6.out)
                                  have n2_ := Aside0.mk (below_drew1 HB.out)
                                  clear HO_4
                                  clear HO_6
                                  clear HB
                                  have HO_4 := n0_
                                  have HO_6 := n1_
                                  have HB := n2_
                                  clear n0_ n1_ n2_
                                  have p240 : 0 ≤ (x10_1 : Int) := of_decide_eq_true (by first | (with_reducible assumption) | assumption)
                                  have q240 : x10_1 < (t225.length : Int) := of_decide_eq_true (by first | (with_reducible assumption) | assumption)
                                  obtain ⟨ad240, e240, hx240_0, hx240_1, hx240_2⟩ := at_T39 (Kd.R_reads' HO_6.out).2.2 x10_1 p240 q240
                                  obtain rfl : ad234 = ad240 := (by injection e240)
                                  replace p240 := eq_true p240
                                  replace q240 := eq_true q240
                                  have p241 : 0 ≤ (x10_1 : Int) := of_decide_eq_true (by first | (with_reducible assumption) | assumption)
                                  have q241 : x10_1 < (t225.length : Int) := of_decide_eq_true (by first | (with_reducible assumption) | assumption)
                                  obtain ⟨ad241, e241, hx241_0, hx241_1, hx241_2⟩ := at_T39 (Kd.R_reads' HO_6.out).2.2 x10_1 p241 q241
                                  obtain rfl : ad234 = ad241 := (by injection e241)
                                  replace p241 := eq_true p241
                                  replace q241 := eq_true q241
                                  refine start_ (n := 14) (S := fun w' => w'.cell? (ad234.add ((x10_1).toNat * 3)) = some (.int .i64 ((rd_T39 t225 x10_1).f0)) ∧ w'.cell? ⟨(ad234.add ((x10_1).toNat * 3)).block, (ad234.add ((x10_1).toNat * 3)).off + 1, none⟩ = some (.int .i64 ((rd_T39 t225 x10_1).f1)) ∧ w'.cell? ⟨(ad234.add ((x10_1).toNat * 3)).block, (ad234.add ((x10_1).toNat * 3)).off + 2, none⟩ = some (.string ((rd_T39 t225 x10_1).f2)) ∧ w'.cell? (ad234.add ((x10_1).toNat * 3)) = some (.int .i64 ((rd_T39 t225 x10_1).f0)) ∧ w'.cell? ⟨(ad234.add ((x10_1).toNat * 3)).block, (ad234.add ((x10_1).toNat * 3)).off + 1, none⟩ = some (.int .i64 ((rd_T39 t225 x10_1).f1)) ∧ w'.cell? ⟨(ad234.add ((x10_1).toNat * 3)).block, (ad234.add ((x10_1).toNat * 3)).off + 2, none⟩ = some (.string ((rd_T39 t225 x10_1).f2))) (ds := []) #[false, false, false, false, false, false, false, false, false, false, false, false, false, false] (by kernel_rfl) rfl rfl ⟨hx240_0, hx240_1, hx240_2, hx241_0, hx241_1, hx241_2⟩ (fun hHeld => ?_); refine with_tabW deadboltlaw5_LexKnown.tab15 deadboltlaw5_LexKnown.bits15 (fun HT_ HW_ => ?_)
                                  generalize wr.drew = w36 at HO_4 HO_6 HB hx240_0 hx240_1 hx240_2 hx241_0 hx241_1 hx241_2 hHeld ⊢
                                  refine pure_ (i := 0) (N := some 75) (v := ?_) (a' := ?_) #[true, false, false, false, false, false, false, false, false, false, false, false, false, false] rfl rfl (any_of HT_.out (by kernel_rfl)) (fun _ _ _ h => h) (Or.inl ⟨by rfl, ?_⟩) ?_ ?_
                                  rotate_left
                                  · intro w'
                                    go_simp
                                    with_reducible rfl
                                  rotate_left
                                  · simp only [Act.put, List.setIfInBounds_toArray, List.set_cons_zero, List.set_cons_succ, i64_w, i32_w]
                                    rfl
                                  refine pure_ (i := 1) (N := some 76) (v := ?_) (a' := ?_) #[true, true, false, false, false, false, false, false, false, false, false, false, false, false] rfl rfl (any_of HT_.out (by kernel_rfl)) (fun _ _ _ h => h) (Or.inl ⟨by rfl, ?_⟩) ?_ ?_
                                  rotate_left
                                  · intro w'
                                    go_simp
                                    with_reducible rfl
                                  rotate_left
                                  · simp only [Act.put, List.setIfInBounds_toArray, List.set_cons_zero, List.set_cons_succ, i64_w, i32_w]
                                    rfl
                                  refine pure_ (i := 2) (N := some 77) (v := ?_) (a' := ?_) #[true, true, true, false, false, false, false, false, false, false, false, false, false, false] rfl rfl (any_of HT_.out (by kernel_rfl)) (fun _ _ _ h => h) (Or.inl ⟨by rfl, ?_⟩) ?_ ?_
                                  rotate_left
                                  · intro w'
                                    go_simp
                                    with_reducible rfl
                                  rotate_left
                                  · simp only [Act.put, List.setIfInBounds_toArray, List.set_cons_zero, List.set_cons_succ, i64_w, i32_w]
                                    rfl
                                  refine pure_ (i := 3) (N := some 78) (v := ?_) (a' := ?_) #[true, true, true, true, false, false, false, false, false, false, false, false, false, false] rfl rfl (any_of HT_.out (by kernel_rfl)) (fun _ _ _ h => h) (Or.inl ⟨by rfl, ?_⟩) ?_ ?_
                                  rotate_left
                                  · intro w'
                                    go_simp
                                    with_reducible rfl
                                  rotate_left
                                  · simp only [Act.put, List.setIfInBounds_toArray, List.set_cons_zero, List.set_cons_succ, i64_w, i32_w]
                                    rfl
                                  refine pure_ (i := 6) (N := some 81) (v := ?_) (a' := ?_) #[true, true, true, true, false, false, true, false, false, false, false, false, false, false] rfl rfl (any_of HT_.out (by kernel_rfl)) (fun _ _ _ h => h) (Or.inl ⟨by rfl, ?_⟩) ?_ ?_
                                  rotate_left
                                  · intro w'
                                    go_simp
                                    with_reducible rfl
                                  rotate_left
                                  · simp only [Act.put, List.setIfInBounds_toArray, List.set_cons_zero, List.set_cons_succ, i64_w, i32_w]
                                    rfl
                                  refine pure_ (i := 7) (N := some 82) (v := ?_) (a' := ?_) #[true, true, true, true, false, false, true, true, false, false, false, false, false, false] rfl rfl (any_of HT_.out (by kernel_rfl)) (fun _ _ _ h => h) (Or.inl ⟨by rfl, ?_⟩) ?_ ?_
                                  rotate_left
                                  · intro w'
                                    go_simp
                                    with_reducible rfl
                                  rotate_left
                                  · simp only [Act.put, List.setIfInBounds_toArray, List.set_cons_zero, List.set_cons_succ, i64_w, i32_w]
                                    rfl
                                  refine pure_ (i := 8) (N := some 83) (v := ?_) (a' := ?_) #[true, true, true, true, false, false, true, true, true, false, false, false, false, false] rfl rfl (any_of HT_.out (by kernel_rfl)) (fun _ _ _ h => h) (Or.inl ⟨by rfl, ?_⟩) ?_ ?_
                                  rotate_left
                                  · intro w'
                                    go_simp
                                    with_reducible rfl
                                  rotate_left
                                  · simp only [Act.put, List.setIfInBounds_toArray, List.set_cons_zero, List.set_cons_succ, i64_w, i32_w]
                                    rfl
                                  refine pure_ (i := 9) (N := some 84) (v := ?_) (a' := ?_) #[true, true, true, true, false, false, true, true, true, true, false, false, false, false] rfl rfl (any_of HT_.out (by kernel_rfl)) (fun _ _ _ h => h) (Or.inl ⟨by rfl, ?_⟩) ?_ ?_
                                  rotate_left
                                  · intro w'
                                    go_simp
                                    with_reducible rfl
                                  rotate_left
                                  · simp only [Act.put, List.setIfInBounds_toArray, List.set_cons_zero, List.set_cons_succ, i64_w, i32_w]
                                    rfl
                                  refine take_ (i := 4) (N := some 79) (v := ?_) (a' := ?_) #[true, true, true, true, true, false, true, true, true, true, false, false, false, false] rfl rfl (take_ofW HT_.out HW_.out (by kernel_rfl)) (fun _ _ _ h => h) (Or.inl ⟨by rfl, ?_⟩) hHeld ?_ ?_
                                  rotate_left
                                  · rintro w' ⟨s0, s1, s2, s3, s4, s5⟩
                                    go_simp
                                    with_reducible rfl
                                  rotate_left
                                  · simp only [Act.put, List.setIfInBounds_toArray, List.set_cons_zero, List.set_cons_succ, i64_w, i32_w]
                                    rfl
                                  refine pure_ (i := 5) (N := some 80) (v := ?_) (a' := ?_) #[true, true, true, true, true, true, true, true, true, true, false, false, false, false] rfl rfl (any_of HT_.out (by kernel_rfl)) (fun _ _ _ h => h) (Or.inl ⟨by rfl, ?_⟩) ?_ ?_
                                  rotate_left
                                  · intro w'
                                    go_simp
                                    with_reducible rfl
                                  rotate_left
                                  · simp only [Act.put, List.setIfInBounds_toArray, List.set_cons_zero, List.set_cons_succ, i64_w, i32_w]
                                    rfl
                                  refine take_ (i := 10) (N := some 85) (v := ?_) (a' := ?_) #[true, true, true, true, true, true, true, true, true, true, true, false, false, false] rfl rfl (take_ofW HT_.out HW_.out (by kernel_rfl)) (fun _ _ _ h => h) (Or.inl ⟨by rfl, ?_⟩) hHeld ?_ ?_
                                  rotate_left
                                  · rintro w' ⟨s0, s1, s2, s3, s4, s5⟩
                                    go_simp
                                    with_reducible rfl
                                  rotate_left
                                  · simp only [Act.put, List.setIfInBounds_toArray, List.set_cons_zero, List.set_cons_succ, i64_w, i32_w]
                                    rfl
                                  refine pure_ (i := 11) (N := some 86) (v := ?_) (a' := ?_) #[true, true, true, true, true, true, true, true, true, true, true, true, false, false] rfl rfl (any_of HT_.out (by kernel_rfl)) (fun _ _ _ h => h) (Or.inl ⟨by rfl, ?_⟩) ?_ ?_
                                  rotate_left
                                  · intro w'
                                    go_simp
                                    with_reducible rfl
                                  rotate_left
                                  · simp only [Act.put, List.setIfInBounds_toArray, List.set_cons_zero, List.set_cons_succ, i64_w, i32_w]
                                    rfl
                                  refine pure_ (i := 12) (N := some 87) (v := ?_) (a' := ?_) #[true, true, true, true, true, true, true, true, true, true, true, true, true, false] rfl rfl (any_of HT_.out (by kernel_rfl)) (fun _ _ _ h => h) (Or.inl ⟨by rfl, ?_⟩) ?_ ?_
                                  rotate_left
                                  · intro w'
                                    go_simp
                                    with_reducible rfl
                                  rotate_left
                                  · simp only [Act.put, List.setIfInBounds_toArray, List.set_cons_zero, List.set_cons_succ, i64_w, i32_w]
                                    rfl
                                  refine pure_ (i := 13) (N := some 11) (v := ?_) (a' := ?_) #[true, true, true, true, true, true, true, true, true, true, true, true, true, true] rfl rfl (any_of HT_.out (by kernel_rfl)) (fun _ _ _ h => h) (Or.inl ⟨by rfl, ?_⟩) ?_ ?_
                                  rotate_left
                                  · intro w'
                                    go_simp
                                    with_reducible rfl
                                  rotate_left
                                  · simp only [Act.put, List.setIfInBounds_toArray, List.set_cons_zero, List.set_cons_succ, i64_w, i32_w]
                                    rfl
                                  refine done_ (done_of HT_.out (by kernel_rfl)) ?_
                                  have p242 : 0 ≤ (x10_1 : Int) := of_decide_eq_true (by first | (with_reducible assumption) | assumption)
                                  have q242 : x10_1 < (t225.length : Int) := of_decide_eq_true (by first | (with_reducible assumption) | assumption)
                                  obtain ⟨ad242, e242, hx242_0, hx242_1, hx242_2⟩ := at_T39 (Kd.R_reads' HO_6.out).2.2 x10_1 p242 q242
                                  obtain rfl : ad234 = ad242 := (by injection e242)
                                  replace p242 := eq_true p242
                                  replace q242 := eq_true q242
                                  try go_wp2_with (first | ((with_reducible refine gate_dst (N := 99) rfl ?_); (try (refine gate_guard (by rfl) ?_; dsimp only)); refine Kd.R_lit (Kd.int .u8) _ 5 ?hg (N := 99) ?hd (xs := ([(wrap64 (48 + ((rd_T39 t225 x10_1).f1))) % 256] : List Int)) (inner := [.int .u8 ((wrap64 (48 + ((rd_T39 t225 x10_1).f1))) % 256)]) (ok := fun _ => True) (okp := fun _ => True) ?hr ?hp (fun _ hk => hk) trivial (Below.refl _ _) (Nat.le_refl _) (by simp) ?_; (case hd => rfl); (case hg => rfl); (case hr => first | (go_simp; done) | (go_simp; rfl)); (case hp => exact (Reps.one (show Kd.M (Kd.int .u8) _ _ _ ((wrap64 (48 + ((rd_T39 t225 x10_1).f1))) % 256) [.int .u8 ((wrap64 (48 + ((rd_T39 t225 x10_1).f1))) % 256)] from rfl) (Reps.none _ _))); intro v244 w37 ho38 hb hg_ hnew_; clear hg_ hnew_; (first | rw [← Ny243.out] at ho38 | (simp only [Int.reduceToNat] at ho38; rw [← Ny243.out] at ho38)); have n0_ := Aside0.mk (Kd.R_below (by (with_reducible repeat (first | apply Kd.R_alloc | apply Kd.R_drewN | apply Kd.R_drew)); exact HO_4.out) hb); have n1_ := Aside0.mk (Kd.R_below (by (with_reducible repeat (first | apply Kd.R_alloc | apply Kd.R_drewN | apply Kd.R_drew)); exact HO_6.out) hb); have n2_ := Aside0.mk (Kd.R_lower ho38 (below_size (by repeat (first | (with_reducible first | exact HB.out | apply below_alloc | apply pw_below_drewN | apply below_drew1) | exact HB.out)))); have n3_ := Aside0.mk (below_step (by repeat (first | (with_reducible first | exact HB.out | apply below_alloc | apply pw_below_drewN | apply below_drew1) | exact HB.out)) hb); clear HO_4; clear HO_6; clear HB; have HO_4 := n0_; have HO_6 := n1_; have HO245 := n2_; have HB := n3_; clear n0_ n1_ n2_ n3_; clear hb ho38; have hcv39 := own_string (P := Tryd.prog) Tryd.underlying24 Tryd.underlying5 Tryd.underlying9 (Kd.own_of_R HO245.out)))
                                  go_roundg k1
                                  case measure => have := HK1.out; omega
                                  case rel => exact ⟨((((x9_1 ++ ((⟨#[123, 125]⟩ : ByteArray).extract ((ji27) : Int).toNat ((wrap64 (((rd_T39 t225 x10_1).f0) - 1)) : Int).toNat)) ++ (⟨#[64]⟩ : ByteArray)) ++ (strOfNums y243)) ++ (⟨#[32]⟩ : ByteArray)), (wrap64 (x10_1 + 1)), (by first | rfl | (simp; done) | (simp only [← hji27] <;> (first | rfl | simp)) | (simp [*]; done)), (by first | rfl | (simp; done) | (simp [*]; done)), H', ⟨by have := HK1.out; omega⟩, ⟨by (with_reducible repeat (first | apply Kd.R_alloc | apply Kd.R_drewN | apply Kd.R_drew)); exact HO_4.out⟩, ⟨by (with_reducible repeat (first | apply Kd.R_alloc | apply Kd.R_drewN | apply Kd.R_drew)); exact HO_6.out⟩, ⟨by repeat (first | (with_reducible first | exact HB.out | apply below_alloc | apply pw_below_drewN | apply below_drew1) | exact HB.out)⟩⟩
                                · rw [if_neg c34] at H
                                  exact absurd H (by simp)
                              · rw [if_neg c33] at H
                                exact absurd H (by simp)
                            · rw [if_neg c32] at H
                              exact absurd H (by simp)
                          · rw [if_neg c31] at H
                            exact absurd H (by simp)
                        · rw [if_neg c30] at H
                          exact absurd H (by simp)
                      · rw [if_neg c29] at H
                        exact absurd H (by simp)
                    · rw [if_neg c28] at H
                      exact absurd H (by simp)
                · rw [if_neg c17] at H
                  exact absurd H (by simp)
              · rw [if_neg c16] at H
                have c16b0 : decide (x10_1 < (t225.length : Int)) = false := decide_eq_false c16
                clear c16
                by_cases c40 : 0 ≤ t223
                · rw [if_pos c40] at H
                  have c40b0 : decide (0 ≤ t223) = true := decide_eq_true c40
                  clear c40
                  by_cases c41 : t223 < (y220.length : Int)
                  · rw [if_pos c41] at H
                    have c41b0 : decide (t223 < (y220.length : Int)) = true := decide_eq_true c41
                    clear c41
                    by_cases c42 : x9_1.toList = (rdOf ByteArray.empty y220 t223).toList
                    · rw [if_pos c42] at H
                      have c42b0 : (x9_1.toList == (rdOf ByteArray.empty y220 t223).toList) = true := beq_iff_eq.mpr c42
                      have c42b1 : (x9_1.toList != (rdOf ByteArray.empty y220 t223).toList) = false := bne_eq_false_iff_eq.mpr c42
                      clear c42
                      obtain rfl := Option.some.inj H
                      obtain ⟨Ao43, co43, eo43⟩ := Kd.R_slice HO_6.out
                      subst eo43
                      obtain ⟨Ao44, co44, eo44⟩ := Kd.R_slice HO_4.out
                      subst eo44
                      have p246 : 0 ≤ (t223 : Int) := of_decide_eq_true (by first | (with_reducible assumption) | assumption)
                      have q246 : t223 < (y220.length : Int) := of_decide_eq_true (by first | (with_reducible assumption) | assumption)
                      obtain ⟨ad246, e246, hx246_0⟩ := Kd.at_string (Kd.R_reads' HO_4.out).2.2 t223 p246 q246
                      cases e246
                      replace p246 := eq_true p246
                      replace q246 := eq_true q246
                      go_wp2
                      go_ret
                      exact ⟨by first | rfl | (simp [errW_none, errW_some] <;> rfl) | (simp [*, errW_none, errW_some] <;> rfl), by repeat (first | (with_reducible first | exact HB.out | apply below_alloc | apply pw_below_drewN | apply below_drew1) | exact HB.out)⟩
                    · rw [if_neg c42] at H
                      have c42b0 : (x9_1.toList == (rdOf ByteArray.empty y220 t223).toList) = false := beq_eq_false_iff_ne.mpr c42
                      have c42b1 : (x9_1.toList != (rdOf ByteArray.empty y220 t223).toList) = true := bne_iff_ne.mpr c42
                      obtain rfl := Option.some.inj H
                      obtain ⟨Ao45, co45, eo45⟩ := Kd.R_slice HO_6.out
                      subst eo45
                      obtain ⟨Ao46, co46, eo46⟩ := Kd.R_slice HO_4.out
                      subst eo46
                      have p246 : 0 ≤ (t223 : Int) := of_decide_eq_true (by first | (with_reducible assumption) | assumption)
                      have q246 : t223 < (y220.length : Int) := of_decide_eq_true (by first | (with_reducible assumption) | assumption)
                      obtain ⟨ad246, e246, hx246_0⟩ := Kd.at_string (Kd.R_reads' HO_4.out).2.2 t223 p246 q246
                      cases e246
                      replace p246 := eq_true p246
                      replace q246 := eq_true q246
                      go_wp2
                      go_ret
                      exact ⟨by first | rfl | (simp [errW_none, errW_some] <;> rfl) | (simp [*, errW_none, errW_some] <;> rfl), by repeat (first | (with_reducible first | exact HB.out | apply below_alloc | apply pw_below_drewN | apply below_drew1) | exact HB.out)⟩
                  · rw [if_neg c41] at H
                    exact absurd H (by simp)
                · rw [if_neg c40] at H
                  exact absurd H (by simp)
        · rw [if_neg c8] at H
          have c8b0 : (t227 == 0) = false := beq_eq_false_iff_ne.mpr c8
          have c8b1 : (t227 != 0) = true := bne_iff_ne.mpr c8
          by_cases c47 : t227 = 6
          · rw [if_pos c47] at H
            have c47b0 : (t227 == 6) = true := beq_iff_eq.mpr c47
            have c47b1 : (t227 != 6) = false := bne_eq_false_iff_eq.mpr c47
            clear c47
            by_cases c48 : (t225.length : Int) = 0
            · rw [if_pos c48] at H
              have c48b0 : ((t225.length : Int) == 0) = true := beq_iff_eq.mpr c48
              have c48b1 : ((t225.length : Int) != 0) = false := bne_eq_false_iff_eq.mpr c48
              clear c48
              by_cases c49 : t223 < (y220.length : Int)
              · rw [if_pos c49] at H
                have c49b0 : decide (t223 < (y220.length : Int)) = true := decide_eq_true c49
                clear c49
                obtain ⟨y231, hy231⟩ : ∃ y_ : List Int, y_ = (([(wrap64 (48 + t226)) % 256] : List Int)) := ⟨_, rfl⟩
                replace H : (if (rdOf ByteArray.empty y220 t223).toList = (strOfNums y231).toList then (some true) else (if t223 = 3 then (some (t226 == 3)) else (some false))) = some r := by first | (rw [hy231]; with_reducible exact H) | (have H2_ := (Option.bind_some _ _).symm.trans H; rw [hy231]; with_reducible exact H2_) | (have H2_ := (Option.bind_some _ _).symm.trans H; with_reducible exact H2_) | with_reducible exact H | (rw [hy231]; exact H) | exact H
                have Ny231 := Aside0.mk hy231
                clear hy231
                by_cases c50 : (rdOf ByteArray.empty y220 t223).toList = (strOfNums y231).toList
                · rw [if_pos c50] at H
                  have c50b0 : ((rdOf ByteArray.empty y220 t223).toList == (strOfNums y231).toList) = true := beq_iff_eq.mpr c50
                  have c50b1 : ((rdOf ByteArray.empty y220 t223).toList != (strOfNums y231).toList) = false := bne_eq_false_iff_eq.mpr c50
                  clear c50
                  obtain rfl := Option.some.inj H
                  go_enter Tryd.func6, Tryd.ntmps6
                  try go_wp2_with (first | ((with_reducible refine gate_callee (f := 9) rfl ?_); refine goesL_ (some 12) rfl rfl Tryd.func9 (by kernel_rfl) rfl #[] rfl (by (try simp only [List.map_toArray, List.map_cons, List.map_nil]); first | done | rfl | (simp only [List.length_drop, List.length_take]; rfl)) ?_; (with_reducible refine (deadboltlaw5_known.calls  true _ A2.out (by first | exact HG.out | exact GL.drewN HG.out _ | exact GL.drewN (GL.drewN HG.out _) _ | exact GL.of_below HG.out (by repeat (first | (with_reducible first | exact HB.out | apply below_alloc | apply pw_below_drewN | apply below_drew1) | exact HB.out)))).mono ?_); rintro e w51 ⟨rfl, hb⟩; refine ⟨_, rfl, ?_⟩; have n0_ := Aside0.mk (below_step (by repeat (first | (with_reducible first | exact HB.out | apply below_alloc | apply pw_below_drewN | apply below_drew1) | exact HB.out)) hb); clear HB; have HB := n0_; clear n0_; (try clear hb); (try clear hb2); (try clear hk); (try clear hi)) | ((with_reducible refine gate_dst (N := 14) rfl ?_); (try (refine gate_guard (by rfl) ?_; dsimp only)); refine Kd.R_lit Kd.string _ 9 ?hg (N := 14) ?hd (xs := ([(⟨#[]⟩ : ByteArray), (⟨#[32, 9, 10, 32]⟩ : ByteArray), (⟨#[97, 123, 98, 125]⟩ : ByteArray), (⟨#[120, 57, 32, 57]⟩ : ByteArray), (⟨#[117, 115, 101, 32, 117, 115, 101, 120]⟩ : ByteArray), (⟨#[123, 32, 123]⟩ : ByteArray), (⟨#[65]⟩ : ByteArray), (⟨#[97, 45, 98]⟩ : ByteArray), (⟨#[97, 13]⟩ : ByteArray), (⟨#[97, 98, 0]⟩ : ByteArray), (⟨#[97, 95, 98]⟩ : ByteArray)] : List ByteArray)) (inner := [.string (⟨#[]⟩ : ByteArray), .string (⟨#[32, 9, 10, 32]⟩ : ByteArray), .string (⟨#[97, 123, 98, 125]⟩ : ByteArray), .string (⟨#[120, 57, 32, 57]⟩ : ByteArray), .string (⟨#[117, 115, 101, 32, 117, 115, 101, 120]⟩ : ByteArray), .string (⟨#[123, 32, 123]⟩ : ByteArray), .string (⟨#[65]⟩ : ByteArray), .string (⟨#[97, 45, 98]⟩ : ByteArray), .string (⟨#[97, 13]⟩ : ByteArray), .string (⟨#[97, 98, 0]⟩ : ByteArray), .string (⟨#[97, 95, 98]⟩ : ByteArray)]) (ok := fun _ => True) (okp := fun _ => True) ?hr ?hp (fun _ hk => hk) trivial (Below.refl _ _) (Nat.le_refl _) (by simp) ?_; (case hd => rfl); (case hg => rfl); (case hr => first | (go_simp; done) | (go_simp; rfl)); (case hp => exact (Reps.one (show Kd.M Kd.string _ _ _ (⟨#[]⟩ : ByteArray) [.string (⟨#[]⟩ : ByteArray)] from rfl) (Reps.one (show Kd.M Kd.string _ _ _ (⟨#[32, 9, 10, 32]⟩ : ByteArray) [.string (⟨#[32, 9, 10, 32]⟩ : ByteArray)] from rfl) (Reps.one (show Kd.M Kd.string _ _ _ (⟨#[97, 123, 98, 125]⟩ : ByteArray) [.string (⟨#[97, 123, 98, 125]⟩ : ByteArray)] from rfl) (Reps.one (show Kd.M Kd.string _ _ _ (⟨#[120, 57, 32, 57]⟩ : ByteArray) [.string (⟨#[120, 57, 32, 57]⟩ : ByteArray)] from rfl) (Reps.one (show Kd.M Kd.string _ _ _ (⟨#[117, 115, 101, 32, 117, 115, 101, 120]⟩ : ByteArray) [.string (⟨#[117, 115, 101, 32, 117, 115, 101, 120]⟩ : ByteArray)] from rfl) (Reps.one (show Kd.M Kd.string _ _ _ (⟨#[123, 32, 123]⟩ : ByteArray) [.string (⟨#[123, 32, 123]⟩ : ByteArray)] from rfl) (Reps.one (show Kd.M Kd.string _ _ _ (⟨#[65]⟩ : ByteArray) [.string (⟨#[65]⟩ : ByteArray)] from rfl) (Reps.one (show Kd.M Kd.string _ _ _ (⟨#[97, 45, 98]⟩ : ByteArray) [.string (⟨#[97, 45, 98]⟩ : ByteArray)] from rfl) (Reps.one (show Kd.M Kd.string _ _ _ (⟨#[97, 13]⟩ : ByteArray) [.string (⟨#[97, 13]⟩ : ByteArray)] from rfl) (Reps.one (show Kd.M Kd.string _ _ _ (⟨#[97, 98, 0]⟩ : ByteArray) [.string (⟨#[97, 98, 0]⟩ : ByteArray)] from rfl) (Reps.one (show Kd.M Kd.string _ _ _ (⟨#[97, 95, 98]⟩ : ByteArray) [.string (⟨#[97, 95, 98]⟩ : ByteArray)] from rfl) (Reps.none _ _))))))))))))); intro v218 w52 ho53 hb hg_ hnew_; clear hg_ hnew_; (first | rw [← Ny217.out] at ho53 | (simp only [Int.reduceToNat] at ho53; rw [← Ny217.out] at ho53)); have n0_ := Aside0.mk (Kd.R_lower ho53 (below_size (by repeat (first | (with_reducible first | exact HB.out | apply below_alloc | apply pw_below_drewN | apply below_drew1) | exact HB.out)))); have n1_ := Aside0.mk (below_step (by repeat (first | (with_reducible first | exact HB.out | apply below_alloc | apply pw_below_drewN | apply below_drew1) | exact HB.out)) hb); clear HB; have HO219 := n0_; have HB := n1_; clear n0_ n1_; clear hb ho53) | ((with_reducible refine gate_dst (N := 15) rfl ?_); (try (refine gate_guard (by rfl) ?_; dsimp only)); refine Kd.R_lit Kd.string _ 9 ?hg (N := 15) ?hd (xs := ([(⟨#[]⟩ : ByteArray), (⟨#[]⟩ : ByteArray), (⟨#[97, 64, 48, 32, 123, 64, 49, 32, 98, 64, 50, 32, 125, 64, 51, 32]⟩ : ByteArray), (⟨#[57]⟩ : ByteArray), (⟨#[117, 115, 101, 64, 48, 32, 117, 115, 101, 120, 64, 52, 32]⟩ : ByteArray), (⟨#[123, 64, 48, 32, 123, 64, 50, 32]⟩ : ByteArray), (⟨#[48]⟩ : ByteArray), (⟨#[49]⟩ : ByteArray), (⟨#[49]⟩ : ByteArray), (⟨#[50]⟩ : ByteArray), (⟨#[49]⟩ : ByteArray)] : List ByteArray)) (inner := [.string (⟨#[]⟩ : ByteArray), .string (⟨#[]⟩ : ByteArray), .string (⟨#[97, 64, 48, 32, 123, 64, 49, 32, 98, 64, 50, 32, 125, 64, 51, 32]⟩ : ByteArray), .string (⟨#[57]⟩ : ByteArray), .string (⟨#[117, 115, 101, 64, 48, 32, 117, 115, 101, 120, 64, 52, 32]⟩ : ByteArray), .string (⟨#[123, 64, 48, 32, 123, 64, 50, 32]⟩ : ByteArray), .string (⟨#[48]⟩ : ByteArray), .string (⟨#[49]⟩ : ByteArray), .string (⟨#[49]⟩ : ByteArray), .string (⟨#[50]⟩ : ByteArray), .string (⟨#[49]⟩ : ByteArray)]) (ok := fun _ => True) (okp := fun _ => True) ?hr ?hp (fun _ hk => hk) trivial (Below.refl _ _) (Nat.le_refl _) (by simp) ?_; (case hd => rfl); (case hg => rfl); (case hr => first | (go_simp; done) | (go_simp; rfl)); (case hp => exact (Reps.one (show Kd.M Kd.string _ _ _ (⟨#[]⟩ : ByteArray) [.string (⟨#[]⟩ : ByteArray)] from rfl) (Reps.one (show Kd.M Kd.string _ _ _ (⟨#[]⟩ : ByteArray) [.string (⟨#[]⟩ : ByteArray)] from rfl) (Reps.one (show Kd.M Kd.string _ _ _ (⟨#[97, 64, 48, 32, 123, 64, 49, 32, 98, 64, 50, 32, 125, 64, 51, 32]⟩ : ByteArray) [.string (⟨#[97, 64, 48, 32, 123, 64, 49, 32, 98, 64, 50, 32, 125, 64, 51, 32]⟩ : ByteArray)] from rfl) (Reps.one (show Kd.M Kd.string _ _ _ (⟨#[57]⟩ : ByteArray) [.string (⟨#[57]⟩ : ByteArray)] from rfl) (Reps.one (show Kd.M Kd.string _ _ _ (⟨#[117, 115, 101, 64, 48, 32, 117, 115, 101, 120, 64, 52, 32]⟩ : ByteArray) [.string (⟨#[117, 115, 101, 64, 48, 32, 117, 115, 101, 120, 64, 52, 32]⟩ : ByteArray)] from rfl) (Reps.one (show Kd.M Kd.string _ _ _ (⟨#[123, 64, 48, 32, 123, 64, 50, 32]⟩ : ByteArray) [.string (⟨#[123, 64, 48, 32, 123, 64, 50, 32]⟩ : ByteArray)] from rfl) (Reps.one (show Kd.M Kd.string _ _ _ (⟨#[48]⟩ : ByteArray) [.string (⟨#[48]⟩ : ByteArray)] from rfl) (Reps.one (show Kd.M Kd.string _ _ _ (⟨#[49]⟩ : ByteArray) [.string (⟨#[49]⟩ : ByteArray)] from rfl) (Reps.one (show Kd.M Kd.string _ _ _ (⟨#[49]⟩ : ByteArray) [.string (⟨#[49]⟩ : ByteArray)] from rfl) (Reps.one (show Kd.M Kd.string _ _ _ (⟨#[50]⟩ : ByteArray) [.string (⟨#[50]⟩ : ByteArray)] from rfl) (Reps.one (show Kd.M Kd.string _ _ _ (⟨#[49]⟩ : ByteArray) [.string (⟨#[49]⟩ : ByteArray)] from rfl) (Reps.none _ _))))))))))))); intro v221 w54 ho55 hb hg_ hnew_; clear hg_ hnew_; (first | rw [← Ny220.out] at ho55 | (simp only [Int.reduceToNat] at ho55; rw [← Ny220.out] at ho55)); have n0_ := Aside0.mk (Kd.R_elder' (by (with_reducible repeat (first | apply Kd.R_alloc | apply Kd.R_drewN | apply Kd.R_drew)); exact HO219.out) (Kd.R_base ho55) hb); have n1_ := Aside0.mk (Kd.R_lower (Kd.R_new' ho55 (Kd.R_lt (by (with_reducible repeat (first | apply Kd.R_alloc | apply Kd.R_drewN | apply Kd.R_drew)); exact HO219.out))) (below_size (by repeat (first | (with_reducible first | exact HB.out | apply below_alloc | apply pw_below_drewN | apply below_drew1) | exact HB.out)))); have n2_ := Aside0.mk (below_step (by repeat (first | (with_reducible first | exact HB.out | apply below_alloc | apply pw_below_drewN | apply below_drew1) | exact HB.out)) hb); clear HO219; clear HB; have HO219 := n0_; have HO222 := n1_; have HB := n2_; clear n0_ n1_ n2_; clear hb ho55; obtain ⟨Ao56, co56, eo56⟩ := Kd.R_slice HO219.out; subst eo56) | ((with_reducible refine gate_callee (f := 10) rfl ?_); refine goesL_ (some 19) rfl rfl Tryd.func10 (by kernel_rfl) rfl #[.int .i64 a0, .int .i64 (y217.length : Int)] rfl (by (try simp only [List.map_toArray, List.map_cons, List.map_nil]); first | done | rfl | (simp only [List.length_drop, List.length_take]; rfl)) ?_; (with_reducible refine (deadboltlaw5_within.calls a0 (y217.length : Int) t223 _ A4.out).mono ?_); rintro e w' ⟨rfl, ⟨nd, rfl⟩⟩; refine ⟨_, rfl, ?_⟩; have p224 : 0 ≤ (t223 : Int) := of_decide_eq_true (by first | (with_reducible assumption) | assumption); have q224 : t223 < (y217.length : Int) := of_decide_eq_true (by first | (with_reducible assumption) | assumption); obtain ⟨ad224, e224, hx224_0⟩ := Kd.at_string (Kd.R_reads' HO219.out).2.2 t223 p224 q224; cases e224; replace p224 := eq_true p224; replace q224 := eq_true q224) | ((with_reducible refine gate_callee (f := 12) rfl ?_); refine goesL_ (some 25) rfl rfl Tryd.func12 (by kernel_rfl) rfl #[.string (rdOf ByteArray.empty y217 t223)] rfl (by (try simp only [List.map_toArray, List.map_cons, List.map_nil]); first | done | rfl | (simp only [List.length_drop, List.length_take]; rfl)) ?_; (with_reducible refine (lex_Tokens.calls (rdOf ByteArray.empty y217 t223) t225 t226 t227 _ A7.out).mono ?_); rintro e w57 ⟨v228, rfl, ho0, hb⟩; refine ⟨_, rfl, ?_⟩; have n0_ := Aside0.mk (Kd.R_below (by (with_reducible repeat (first | apply Kd.R_alloc | apply Kd.R_drewN | apply Kd.R_drew)); exact HO219.out) hb); have n1_ := Aside0.mk (Kd.R_below (by (with_reducible repeat (first | apply Kd.R_alloc | apply Kd.R_drewN | apply Kd.R_drew)); exact HO222.out) hb); have n2_ := Aside0.mk (Kd.R_lower ho0 (below_size (by repeat (first | (with_reducible first | exact HB.out | apply below_alloc | apply pw_below_drewN | apply below_drew1) | exact HB.out)))); have n3_ := Aside0.mk (below_step (by repeat (first | (with_reducible first | exact HB.out | apply below_alloc | apply pw_below_drewN | apply below_drew1) | exact HB.out)) hb); clear HO219; clear HO222; clear HB; have HO219 := n0_; have HO222 := n1_; have HO229 := n2_; have HB := n3_; clear n0_ n1_ n2_ n3_; (try clear hb); (try clear hb2); (try clear hk); (try clear hi); (try clear ho0)))
                  have n0_ := Aside0.mk (Kd.R_drew HO219.out)
                  have n1_ := Aside0.mk (Kd.R_drew HO222.out)
                  have n2_ := Aside0.mk (Kd.R_drew HO229.out)
                  have n3_ := Aside0.mk (below_drew1 HB.out)
                  clear HO219
                  clear HO222
                  clear HO229
                  clear HB
                  have HO219 := n0_
                  have HO222 := n1_
                  have HO229 := n2_
                  have HB := n3_
                  clear n0_ n1_ n2_ n3_
                  obtain ⟨Ao59, co59, eo59⟩ := Kd.R_slice HO229.out
                  (first | subst eo59 | (injection eo59 with f1_ f2_ f3_; have f4_ := f1_.symm; have f5_ := f3_.symm; clear f1_ f2_ f3_; subst f4_; subst f5_))
                  obtain ⟨Ao60, co60, eo60⟩ := Kd.R_slice HO222.out
                  (first | subst eo60 | (injection eo60 with f1_ f2_ f3_; have f4_ := f1_.symm; have f5_ := f3_.symm; clear f1_ f2_ f3_; subst f4_; subst f5_))
                  have p230 : 0 ≤ (t223 : Int) := of_decide_eq_true (by first | (with_reducible assumption) | assumption)
                  have q230 : t223 < (y220.length : Int) := of_decide_eq_true (by first | (with_reducible assumption) | assumption)
                  obtain ⟨ad230, e230, hx230_0⟩ := Kd.at_string (Kd.R_reads' HO222.out).2.2 t223 p230 q230
                  cases e230
                  replace p230 := eq_true p230
                  replace q230 := eq_true q230
                  refine start_ (n := 28) (S := fun w' => w'.cell? (ad230.add (t223).toNat) = some (.string (rdOf ByteArray.empty y220 t223))) (ds := []) #[false, false, false, false, false, false, false, false, false, false, false, false, false, false, false, false, false, false, false, false, false, false, false, false, false, false, false, false] (by kernel_rfl) rfl rfl (hx230_0) (fun hHeld => ?_); refine with_tabW deadboltlaw5_LexKnown.tab8 deadboltlaw5_LexKnown.bits8 (fun HT_ HW_ => ?_)
                  generalize w57.drew = w58 at HO219 HO222 HO229 HB hx230_0 hHeld ⊢
                  refine pure_ (i := 0) (N := some 31) (v := ?_) (a' := ?_) #[true, false, false, false, false, false, false, false, false, false, false, false, false, false, false, false, false, false, false, false, false, false, false, false, false, false, false, false] rfl rfl (any_of HT_.out (by kernel_rfl)) (fun _ _ _ h => h) (Or.inl ⟨by rfl, ?_⟩) ?_ ?_
                  rotate_left
                  · intro w'
                    go_simp
                    with_reducible rfl
                  rotate_left
                  · simp only [Act.put, List.setIfInBounds_toArray, List.set_cons_zero, List.set_cons_succ, i64_w, i32_w]
                    rfl
                  refine pure_ (i := 1) (N := some 32) (v := ?_) (a' := ?_) #[true, true, false, false, false, false, false, false, false, false, false, false, false, false, false, false, false, false, false, false, false, false, false, false, false, false, false, false] rfl rfl (any_of HT_.out (by kernel_rfl)) (fun _ _ _ h => h) (Or.inl ⟨by rfl, ?_⟩) ?_ ?_
                  rotate_left
                  · intro w'
                    go_simp
                    with_reducible rfl
                  rotate_left
                  · simp only [Act.put, List.setIfInBounds_toArray, List.set_cons_zero, List.set_cons_succ, i64_w, i32_w]
                    rfl
                  refine pure_ (i := 2) (N := some 33) (v := ?_) (a' := ?_) #[true, true, true, false, false, false, false, false, false, false, false, false, false, false, false, false, false, false, false, false, false, false, false, false, false, false, false, false] rfl rfl (any_of HT_.out (by kernel_rfl)) (fun _ _ _ h => h) (Or.inl ⟨by rfl, ?_⟩) ?_ ?_
                  rotate_left
                  · intro w'
                    go_simp
                    with_reducible rfl
                  rotate_left
                  · simp only [Act.put, List.setIfInBounds_toArray, List.set_cons_zero, List.set_cons_succ, i64_w, i32_w]
                    rfl
                  refine pure_ (i := 3) (N := some 34) (v := ?_) (a' := ?_) #[true, true, true, true, false, false, false, false, false, false, false, false, false, false, false, false, false, false, false, false, false, false, false, false, false, false, false, false] rfl rfl (any_of HT_.out (by kernel_rfl)) (fun _ _ _ h => h) (Or.inl ⟨by rfl, ?_⟩) ?_ ?_
                  rotate_left
                  · intro w'
                    go_simp
                    with_reducible rfl
                  rotate_left
                  · simp only [Act.put, List.setIfInBounds_toArray, List.set_cons_zero, List.set_cons_succ, i64_w, i32_w]
                    rfl
                  refine pure_ (i := 4) (N := some 35) (v := ?_) (a' := ?_) #[true, true, true, true, true, false, false, false, false, false, false, false, false, false, false, false, false, false, false, false, false, false, false, false, false, false, false, false] rfl rfl (any_of HT_.out (by kernel_rfl)) (fun _ _ _ h => h) (Or.inl ⟨by rfl, ?_⟩) ?_ ?_
                  rotate_left
                  · intro w'
                    go_simp
                    with_reducible rfl
                  rotate_left
                  · simp only [Act.put, List.setIfInBounds_toArray, List.set_cons_zero, List.set_cons_succ, i64_w, i32_w]
                    rfl
                  refine pure_ (i := 5) (N := some 36) (v := ?_) (a' := ?_) #[true, true, true, true, true, true, false, false, false, false, false, false, false, false, false, false, false, false, false, false, false, false, false, false, false, false, false, false] rfl rfl (any_of HT_.out (by kernel_rfl)) (fun _ _ _ h => h) (Or.inl ⟨by rfl, ?_⟩) ?_ ?_
                  rotate_left
                  · intro w'
                    go_simp
                    with_reducible rfl
                  rotate_left
                  · simp only [Act.put, List.setIfInBounds_toArray, List.set_cons_zero, List.set_cons_succ, i64_w, i32_w]
                    rfl
                  refine pure_ (i := 6) (N := some 37) (v := ?_) (a' := ?_) #[true, true, true, true, true, true, true, false, false, false, false, false, false, false, false, false, false, false, false, false, false, false, false, false, false, false, false, false] rfl rfl (any_of HT_.out (by kernel_rfl)) (fun _ _ _ h => h) (Or.inl ⟨by rfl, ?_⟩) ?_ ?_
                  rotate_left
                  · intro w'
                    go_simp
                    with_reducible rfl
                  rotate_left
                  · simp only [Act.put, List.setIfInBounds_toArray, List.set_cons_zero, List.set_cons_succ, i64_w, i32_w]
                    rfl
                  refine pure_ (i := 7) (N := some 38) (v := ?_) (a' := ?_) #[true, true, true, true, true, true, true, true, false, false, false, false, false, false, false, false, false, false, false, false, false, false, false, false, false, false, false, false] rfl rfl (any_of HT_.out (by kernel_rfl)) (fun _ _ _ h => h) (Or.inl ⟨by rfl, ?_⟩) ?_ ?_
                  rotate_left
                  · intro w'
                    go_simp
                    with_reducible rfl
                  rotate_left
                  · simp only [Act.put, List.setIfInBounds_toArray, List.set_cons_zero, List.set_cons_succ, i64_w, i32_w]
                    rfl
                  refine pure_ (i := 8) (N := some 39) (v := ?_) (a' := ?_) #[true, true, true, true, true, true, true, true, true, false, false, false, false, false, false, false, false, false, false, false, false, false, false, false, false, false, false, false] rfl rfl (any_of HT_.out (by kernel_rfl)) (fun _ _ _ h => h) (Or.inl ⟨by rfl, ?_⟩) ?_ ?_
                  rotate_left
                  · intro w'
                    go_simp
                    with_reducible rfl
                  rotate_left
                  · simp only [Act.put, List.setIfInBounds_toArray, List.set_cons_zero, List.set_cons_succ, i64_w, i32_w]
                    rfl
                  refine pure_ (i := 9) (N := some 40) (v := ?_) (a' := ?_) #[true, true, true, true, true, true, true, true, true, true, false, false, false, false, false, false, false, false, false, false, false, false, false, false, false, false, false, false] rfl rfl (any_of HT_.out (by kernel_rfl)) (fun _ _ _ h => h) (Or.inl ⟨by rfl, ?_⟩) ?_ ?_
                  rotate_left
                  · intro w'
                    go_simp
                    with_reducible rfl
                  rotate_left
                  · simp only [Act.put, List.setIfInBounds_toArray, List.set_cons_zero, List.set_cons_succ, i64_w, i32_w]
                    rfl
                  refine pure_ (i := 10) (N := some 41) (v := ?_) (a' := ?_) #[true, true, true, true, true, true, true, true, true, true, true, false, false, false, false, false, false, false, false, false, false, false, false, false, false, false, false, false] rfl rfl (any_of HT_.out (by kernel_rfl)) (fun _ _ _ h => h) (Or.inl ⟨by rfl, ?_⟩) ?_ ?_
                  rotate_left
                  · intro w'
                    go_simp
                    with_reducible rfl
                  rotate_left
                  · simp only [Act.put, List.setIfInBounds_toArray, List.set_cons_zero, List.set_cons_succ, i64_w, i32_w]
                    rfl
                  refine pure_ (i := 12) (N := some 43) (v := ?_) (a' := ?_) #[true, true, true, true, true, true, true, true, true, true, true, false, true, false, false, false, false, false, false, false, false, false, false, false, false, false, false, false] rfl rfl (any_of HT_.out (by kernel_rfl)) (fun _ _ _ h => h) (Or.inl ⟨by rfl, ?_⟩) ?_ ?_
                  rotate_left
                  · intro w'
                    go_simp
                    with_reducible rfl
                  rotate_left
                  · simp only [Act.put, List.setIfInBounds_toArray, List.set_cons_zero, List.set_cons_succ, i64_w, i32_w]
                    rfl
                  refine pure_ (i := 13) (N := some 44) (v := ?_) (a' := ?_) #[true, true, true, true, true, true, true, true, true, true, true, false, true, true, false, false, false, false, false, false, false, false, false, false, false, false, false, false] rfl rfl (any_of HT_.out (by kernel_rfl)) (fun _ _ _ h => h) (Or.inl ⟨by rfl, ?_⟩) ?_ ?_
                  rotate_left
                  · intro w'
                    go_simp
                    with_reducible rfl
                  rotate_left
                  · simp only [Act.put, List.setIfInBounds_toArray, List.set_cons_zero, List.set_cons_succ, i64_w, i32_w]
                    rfl
                  refine pure_ (i := 14) (N := some 45) (v := ?_) (a' := ?_) #[true, true, true, true, true, true, true, true, true, true, true, false, true, true, true, false, false, false, false, false, false, false, false, false, false, false, false, false] rfl rfl (any_of HT_.out (by kernel_rfl)) (fun _ _ _ h => h) (Or.inl ⟨by rfl, ?_⟩) ?_ ?_
                  rotate_left
                  · intro w'
                    go_simp
                    with_reducible rfl
                  rotate_left
                  · simp only [Act.put, List.setIfInBounds_toArray, List.set_cons_zero, List.set_cons_succ, i64_w, i32_w]
                    rfl
                  refine take_ (i := 11) (N := some 42) (v := ?_) (a' := ?_) #[true, true, true, true, true, true, true, true, true, true, true, true, true, true, true, false, false, false, false, false, false, false, false, false, false, false, false, false] rfl rfl (take_ofW HT_.out HW_.out (by kernel_rfl)) (fun _ _ _ h => h) (Or.inl ⟨by rfl, ?_⟩) hHeld ?_ ?_
                  rotate_left
                  · intro w' s0
                    go_simp
                    with_reducible rfl
                  rotate_left
                  · simp only [Act.put, List.setIfInBounds_toArray, List.set_cons_zero, List.set_cons_succ, i64_w, i32_w]
                    rfl
                  refine one_ (i := 15) (N := some 46) #[true, true, true, true, true, true, true, true, true, true, true, true, true, true, true, true, false, false, false, false, false, false, false, false, false, false, false, false] rfl rfl (one_of HT_.out (by kernel_rfl)) (by decide) (fun K hK => ?_)
                  refine Kd.R_lit_step (Kd.int .u8) _ 5 ?hg (N := 46) ?hd (xs := ([(wrap64 (48 + t226)) % 256] : List Int)) (inner := [.int .u8 ((wrap64 (48 + t226)) % 256)]) (ok := fun _ => True) (okp := fun _ => True) ?hr ?hp (fun _ hk => hk) trivial (Below.refl _ _) (Nat.le_refl _) (by simp) ?_; (case hd => rfl); (case hg => rfl); (case hr => first | (go_simp; done) | (go_simp; rfl)); (case hp => exact (Reps.one (show Kd.M (Kd.int .u8) _ _ _ ((wrap64 (48 + t226)) % 256) [.int .u8 ((wrap64 (48 + t226)) % 256)] from rfl) (Reps.none _ _)))
                  intro v232 w61 ho62 hb hg_ hnew_
                  have HS0_ := (hb.cell (World.block_lt_of_cell? _ _ (hHeld))).trans (hHeld)
                  clear hg_ hnew_
                  (first | rw [← Ny231.out] at ho62 | (simp only [Int.reduceToNat] at ho62; rw [← Ny231.out] at ho62))
                  have n0_ := Aside0.mk (Kd.R_below (by (with_reducible repeat (first | apply Kd.R_alloc | apply Kd.R_drewN | apply Kd.R_drew)); exact HO219.out) hb)
                  have n1_ := Aside0.mk (Kd.R_below (by (with_reducible repeat (first | apply Kd.R_alloc | apply Kd.R_drewN | apply Kd.R_drew)); exact HO222.out) hb)
                  have n2_ := Aside0.mk (Kd.R_below (by (with_reducible repeat (first | apply Kd.R_alloc | apply Kd.R_drewN | apply Kd.R_drew)); exact HO229.out) hb)
                  have n3_ := Aside0.mk (Kd.R_lower ho62 (below_size (by repeat (first | (with_reducible first | exact HB.out | apply below_alloc | apply pw_below_drewN | apply below_drew1) | exact HB.out))))
                  have n4_ := Aside0.mk (below_step (by repeat (first | (with_reducible first | exact HB.out | apply below_alloc | apply pw_below_drewN | apply below_drew1) | exact HB.out)) hb)
                  clear HO219
                  clear HO222
                  clear HO229
                  clear HB
                  have HO219 := n0_
                  have HO222 := n1_
                  have HO229 := n2_
                  have HO233 := n3_
                  have HB := n4_
                  clear n0_ n1_ n2_ n3_ n4_
                  clear hb ho62
                  refine hK.out _ _ (HS0_) (fun hHeld => ?_)
                  clear hK K
                  refine norm_ (a' := ?_) ?_ ?_
                  rotate_left
                  · show Act.put _ (some 46) _ = _
                    simp only [Act.put, List.setIfInBounds_toArray, List.set_cons_zero, List.set_cons_succ, i64_w, i32_w]
                    rfl
                  refine one_ (i := 16) (N := some 47) #[true, true, true, true, true, true, true, true, true, true, true, true, true, true, true, true, true, false, false, false, false, false, false, false, false, false, false, false] rfl rfl (one_of HT_.out (by kernel_rfl)) (by decide) (fun K hK => ?_)
                  have hcv63 := own_string (P := Tryd.prog) Tryd.underlying24 Tryd.underlying5 Tryd.underlying9 (Kd.own_of_R HO233.out)
                  refine value_ (w1 := ?_) (v := ?_) (by rfl) rfl ?_ ?_
                  rotate_left 2
                  · go_simp
                    constructor
                    · rfl
                    · rfl
                  clear hcv63
                  refine hK.out _ _ (hHeld) (fun hHeld => ?_)
                  clear hK K
                  refine norm_ (a' := ?_) ?_ ?_
                  rotate_left
                  · show Act.put _ (some 47) _ = _
                    simp only [Act.put, List.setIfInBounds_toArray, List.set_cons_zero, List.set_cons_succ, i64_w, i32_w]
                    rfl
                  refine pure_ (i := 17) (N := some 48) (v := ?_) (a' := ?_) #[true, true, true, true, true, true, true, true, true, true, true, true, true, true, true, true, true, true, false, false, false, false, false, false, false, false, false, false] rfl rfl (any_of HT_.out (by kernel_rfl)) (fun _ _ _ h => h) (Or.inl ⟨by rfl, ?_⟩) ?_ ?_
                  rotate_left
                  · intro w'
                    go_simp
                    with_reducible rfl
                  rotate_left
                  · simp only [Act.put, List.setIfInBounds_toArray, List.set_cons_zero, List.set_cons_succ, i64_w, i32_w]
                    rfl
                  refine pure_ (i := 18) (N := some 49) (v := ?_) (a' := ?_) #[true, true, true, true, true, true, true, true, true, true, true, true, true, true, true, true, true, true, true, false, false, false, false, false, false, false, false, false] rfl rfl (any_of HT_.out (by kernel_rfl)) (fun _ _ _ h => h) (Or.inl ⟨by rfl, ?_⟩) ?_ ?_
                  rotate_left
                  · intro w'
                    go_simp
                    with_reducible rfl
                  rotate_left
                  · simp only [Act.put, List.setIfInBounds_toArray, List.set_cons_zero, List.set_cons_succ, i64_w, i32_w]
                    rfl
                  refine pure_ (i := 19) (N := some 50) (v := undef) (a' := ?_) #[true, true, true, true, true, true, true, true, true, true, true, true, true, true, true, true, true, true, true, true, false, false, false, false, false, false, false, false] rfl rfl (any_of HT_.out (by kernel_rfl)) (fun _ _ _ h => h) (Or.inr ⟨by rfl, rfl⟩) ?_ ?_
                  rotate_left
                  · simp only [Act.put, List.setIfInBounds_toArray, List.set_cons_zero, List.set_cons_succ, i64_w, i32_w]
                    rfl
                  refine pure_ (i := 20) (N := some 51) (v := undef) (a' := ?_) #[true, true, true, true, true, true, true, true, true, true, true, true, true, true, true, true, true, true, true, true, true, false, false, false, false, false, false, false] rfl rfl (any_of HT_.out (by kernel_rfl)) (fun _ _ _ h => h) (Or.inr ⟨by rfl, rfl⟩) ?_ ?_
                  rotate_left
                  · simp only [Act.put, List.setIfInBounds_toArray, List.set_cons_zero, List.set_cons_succ, i64_w, i32_w]
                    rfl
                  refine pure_ (i := 21) (N := some 52) (v := undef) (a' := ?_) #[true, true, true, true, true, true, true, true, true, true, true, true, true, true, true, true, true, true, true, true, true, true, false, false, false, false, false, false] rfl rfl (any_of HT_.out (by kernel_rfl)) (fun _ _ _ h => h) (Or.inr ⟨by rfl, rfl⟩) ?_ ?_
                  rotate_left
                  · simp only [Act.put, List.setIfInBounds_toArray, List.set_cons_zero, List.set_cons_succ, i64_w, i32_w]
                    rfl
                  refine pure_ (i := 22) (N := some 53) (v := undef) (a' := ?_) #[true, true, true, true, true, true, true, true, true, true, true, true, true, true, true, true, true, true, true, true, true, true, true, false, false, false, false, false] rfl rfl (any_of HT_.out (by kernel_rfl)) (fun _ _ _ h => h) (Or.inr ⟨by rfl, rfl⟩) ?_ ?_
                  rotate_left
                  · simp only [Act.put, List.setIfInBounds_toArray, List.set_cons_zero, List.set_cons_succ, i64_w, i32_w]
                    rfl
                  refine pure_ (i := 23) (N := some 54) (v := undef) (a' := ?_) #[true, true, true, true, true, true, true, true, true, true, true, true, true, true, true, true, true, true, true, true, true, true, true, true, false, false, false, false] rfl rfl (any_of HT_.out (by kernel_rfl)) (fun _ _ _ h => h) (Or.inr ⟨by rfl, rfl⟩) ?_ ?_
                  rotate_left
                  · simp only [Act.put, List.setIfInBounds_toArray, List.set_cons_zero, List.set_cons_succ, i64_w, i32_w]
                    rfl
                  refine pure_ (i := 24) (N := some 55) (v := undef) (a' := ?_) #[true, true, true, true, true, true, true, true, true, true, true, true, true, true, true, true, true, true, true, true, true, true, true, true, true, false, false, false] rfl rfl (any_of HT_.out (by kernel_rfl)) (fun _ _ _ h => h) (Or.inr ⟨by rfl, rfl⟩) ?_ ?_
                  rotate_left
                  · simp only [Act.put, List.setIfInBounds_toArray, List.set_cons_zero, List.set_cons_succ, i64_w, i32_w]
                    rfl
                  refine pure_ (i := 25) (N := some 56) (v := ?_) (a' := ?_) #[true, true, true, true, true, true, true, true, true, true, true, true, true, true, true, true, true, true, true, true, true, true, true, true, true, true, false, false] rfl rfl (any_of HT_.out (by kernel_rfl)) (fun _ _ _ h => h) (Or.inl ⟨by rfl, ?_⟩) ?_ ?_
                  rotate_left
                  · intro w'
                    go_simp
                    with_reducible rfl
                  rotate_left
                  · simp only [Act.put, List.setIfInBounds_toArray, List.set_cons_zero, List.set_cons_succ, i64_w, i32_w]
                    rfl
                  refine pure_ (i := 26) (N := some 57) (v := ?_) (a' := ?_) #[true, true, true, true, true, true, true, true, true, true, true, true, true, true, true, true, true, true, true, true, true, true, true, true, true, true, true, false] rfl rfl (any_of HT_.out (by kernel_rfl)) (fun _ _ _ h => h) (Or.inl ⟨by rfl, ?_⟩) ?_ ?_
                  rotate_left
                  · intro w'
                    go_simp
                    with_reducible rfl
                  rotate_left
                  · simp only [Act.put, List.setIfInBounds_toArray, List.set_cons_zero, List.set_cons_succ, i64_w, i32_w]
                    rfl
                  refine pure_ (i := 27) (N := some 2) (v := ?_) (a' := ?_) #[true, true, true, true, true, true, true, true, true, true, true, true, true, true, true, true, true, true, true, true, true, true, true, true, true, true, true, true] rfl rfl (any_of HT_.out (by kernel_rfl)) (fun _ _ _ h => h) (Or.inl ⟨by rfl, ?_⟩) ?_ ?_
                  rotate_left
                  · intro w'
                    go_simp
                    with_reducible rfl
                  rotate_left
                  · simp only [Act.put, List.setIfInBounds_toArray, List.set_cons_zero, List.set_cons_succ, i64_w, i32_w]
                    rfl
                  refine done_ (done_of HT_.out (by kernel_rfl)) ?_
                  try go_wp2
                  go_ret
                  exact ⟨by first | rfl | (simp [errW_none, errW_some] <;> rfl) | (simp [*, errW_none, errW_some] <;> rfl), by repeat (first | (with_reducible first | exact HB.out | apply below_alloc | apply pw_below_drewN | apply below_drew1) | exact HB.out)⟩
                · rw [if_neg c50] at H
                  have c50b0 : ((rdOf ByteArray.empty y220 t223).toList == (strOfNums y231).toList) = false := beq_eq_false_iff_ne.mpr c50
                  have c50b1 : ((rdOf ByteArray.empty y220 t223).toList != (strOfNums y231).toList) = true := bne_iff_ne.mpr c50
                  by_cases c64 : t223 = 3
                  · rw [if_pos c64] at H
                    have c64b0 : (t223 == 3) = true := beq_iff_eq.mpr c64
                    have c64b1 : (t223 != 3) = false := bne_eq_false_iff_eq.mpr c64
                    clear c64
                    obtain rfl := Option.some.inj H
                    go_enter Tryd.func6, Tryd.ntmps6
                    try go_wp2_with (first | ((with_reducible refine gate_callee (f := 9) rfl ?_); refine goesL_ (some 12) rfl rfl Tryd.func9 (by kernel_rfl) rfl #[] rfl (by (try simp only [List.map_toArray, List.map_cons, List.map_nil]); first | done | rfl | (simp only [List.length_drop, List.length_take]; rfl)) ?_; (with_reducible refine (deadboltlaw5_known.calls  true _ A2.out (by first | exact HG.out | exact GL.drewN HG.out _ | exact GL.drewN (GL.drewN HG.out _) _ | exact GL.of_below HG.out (by repeat (first | (with_reducible first | exact HB.out | apply below_alloc | apply pw_below_drewN | apply below_drew1) | exact HB.out)))).mono ?_); rintro e w65 ⟨rfl, hb⟩; refine ⟨_, rfl, ?_⟩; have n0_ := Aside0.mk (below_step (by repeat (first | (with_reducible first | exact HB.out | apply below_alloc | apply pw_below_drewN | apply below_drew1) | exact HB.out)) hb); clear HB; have HB := n0_; clear n0_; (try clear hb); (try clear hb2); (try clear hk); (try clear hi)) | ((with_reducible refine gate_dst (N := 14) rfl ?_); (try (refine gate_guard (by rfl) ?_; dsimp only)); refine Kd.R_lit Kd.string _ 9 ?hg (N := 14) ?hd (xs := ([(⟨#[]⟩ : ByteArray), (⟨#[32, 9, 10, 32]⟩ : ByteArray), (⟨#[97, 123, 98, 125]⟩ : ByteArray), (⟨#[120, 57, 32, 57]⟩ : ByteArray), (⟨#[117, 115, 101, 32, 117, 115, 101, 120]⟩ : ByteArray), (⟨#[123, 32, 123]⟩ : ByteArray), (⟨#[65]⟩ : ByteArray), (⟨#[97, 45, 98]⟩ : ByteArray), (⟨#[97, 13]⟩ : ByteArray), (⟨#[97, 98, 0]⟩ : ByteArray), (⟨#[97, 95, 98]⟩ : ByteArray)] : List ByteArray)) (inner := [.string (⟨#[]⟩ : ByteArray), .string (⟨#[32, 9, 10, 32]⟩ : ByteArray), .string (⟨#[97, 123, 98, 125]⟩ : ByteArray), .string (⟨#[120, 57, 32, 57]⟩ : ByteArray), .string (⟨#[117, 115, 101, 32, 117, 115, 101, 120]⟩ : ByteArray), .string (⟨#[123, 32, 123]⟩ : ByteArray), .string (⟨#[65]⟩ : ByteArray), .string (⟨#[97, 45, 98]⟩ : ByteArray), .string (⟨#[97, 13]⟩ : ByteArray), .string (⟨#[97, 98, 0]⟩ : ByteArray), .string (⟨#[97, 95, 98]⟩ : ByteArray)]) (ok := fun _ => True) (okp := fun _ => True) ?hr ?hp (fun _ hk => hk) trivial (Below.refl _ _) (Nat.le_refl _) (by simp) ?_; (case hd => rfl); (case hg => rfl); (case hr => first | (go_simp; done) | (go_simp; rfl)); (case hp => exact (Reps.one (show Kd.M Kd.string _ _ _ (⟨#[]⟩ : ByteArray) [.string (⟨#[]⟩ : ByteArray)] from rfl) (Reps.one (show Kd.M Kd.string _ _ _ (⟨#[32, 9, 10, 32]⟩ : ByteArray) [.string (⟨#[32, 9, 10, 32]⟩ : ByteArray)] from rfl) (Reps.one (show Kd.M Kd.string _ _ _ (⟨#[97, 123, 98, 125]⟩ : ByteArray) [.string (⟨#[97, 123, 98, 125]⟩ : ByteArray)] from rfl) (Reps.one (show Kd.M Kd.string _ _ _ (⟨#[120, 57, 32, 57]⟩ : ByteArray) [.string (⟨#[120, 57, 32, 57]⟩ : ByteArray)] from rfl) (Reps.one (show Kd.M Kd.string _ _ _ (⟨#[117, 115, 101, 32, 117, 115, 101, 120]⟩ : ByteArray) [.string (⟨#[117, 115, 101, 32, 117, 115, 101, 120]⟩ : ByteArray)] from rfl) (Reps.one (show Kd.M Kd.string _ _ _ (⟨#[123, 32, 123]⟩ : ByteArray) [.string (⟨#[123, 32, 123]⟩ : ByteArray)] from rfl) (Reps.one (show Kd.M Kd.string _ _ _ (⟨#[65]⟩ : ByteArray) [.string (⟨#[65]⟩ : ByteArray)] from rfl) (Reps.one (show Kd.M Kd.string _ _ _ (⟨#[97, 45, 98]⟩ : ByteArray) [.string (⟨#[97, 45, 98]⟩ : ByteArray)] from rfl) (Reps.one (show Kd.M Kd.string _ _ _ (⟨#[97, 13]⟩ : ByteArray) [.string (⟨#[97, 13]⟩ : ByteArray)] from rfl) (Reps.one (show Kd.M Kd.string _ _ _ (⟨#[97, 98, 0]⟩ : ByteArray) [.string (⟨#[97, 98, 0]⟩ : ByteArray)] from rfl) (Reps.one (show Kd.M Kd.string _ _ _ (⟨#[97, 95, 98]⟩ : ByteArray) [.string (⟨#[97, 95, 98]⟩ : ByteArray)] from rfl) (Reps.none _ _))))))))))))); intro v218 w66 ho67 hb hg_ hnew_; clear hg_ hnew_; (first | rw [← Ny217.out] at ho67 | (simp only [Int.reduceToNat] at ho67; rw [← Ny217.out] at ho67)); have n0_ := Aside0.mk (Kd.R_lower ho67 (below_size (by repeat (first | (with_reducible first | exact HB.out | apply below_alloc | apply pw_below_drewN | apply below_drew1) | exact HB.out)))); have n1_ := Aside0.mk (below_step (by repeat (first | (with_reducible first | exact HB.out | apply below_alloc | apply pw_below_drewN | apply below_drew1) | exact HB.out)) hb); clear HB; have HO219 := n0_; have HB := n1_; clear n0_ n1_; clear hb ho67) | ((with_reducible refine gate_dst (N := 15) rfl ?_); (try (refine gate_guard (by rfl) ?_; dsimp only)); refine Kd.R_lit Kd.string _ 9 ?hg (N := 15) ?hd (xs := ([(⟨#[]⟩ : ByteArray), (⟨#[]⟩ : ByteArray), (⟨#[97, 64, 48, 32, 123, 64, 49, 32, 98, 64, 50, 32, 125, 64, 51, 32]⟩ : ByteArray), (⟨#[57]⟩ : ByteArray), (⟨#[117, 115, 101, 64, 48, 32, 117, 115, 101, 120, 64, 52, 32]⟩ : ByteArray), (⟨#[123, 64, 48, 32, 123, 64, 50, 32]⟩ : ByteArray), (⟨#[48]⟩ : ByteArray), (⟨#[49]⟩ : ByteArray), (⟨#[49]⟩ : ByteArray), (⟨#[50]⟩ : ByteArray), (⟨#[49]⟩ : ByteArray)] : List ByteArray)) (inner := [.string (⟨#[]⟩ : ByteArray), .string (⟨#[]⟩ : ByteArray), .string (⟨#[97, 64, 48, 32, 123, 64, 49, 32, 98, 64, 50, 32, 125, 64, 51, 32]⟩ : ByteArray), .string (⟨#[57]⟩ : ByteArray), .string (⟨#[117, 115, 101, 64, 48, 32, 117, 115, 101, 120, 64, 52, 32]⟩ : ByteArray), .string (⟨#[123, 64, 48, 32, 123, 64, 50, 32]⟩ : ByteArray), .string (⟨#[48]⟩ : ByteArray), .string (⟨#[49]⟩ : ByteArray), .string (⟨#[49]⟩ : ByteArray), .string (⟨#[50]⟩ : ByteArray), .string (⟨#[49]⟩ : ByteArray)]) (ok := fun _ => True) (okp := fun _ => True) ?hr ?hp (fun _ hk => hk) trivial (Below.refl _ _) (Nat.le_refl _) (by simp) ?_; (case hd => rfl); (case hg => rfl); (case hr => first | (go_simp; done) | (go_simp; rfl)); (case hp => exact (Reps.one (show Kd.M Kd.string _ _ _ (⟨#[]⟩ : ByteArray) [.string (⟨#[]⟩ : ByteArray)] from rfl) (Reps.one (show Kd.M Kd.string _ _ _ (⟨#[]⟩ : ByteArray) [.string (⟨#[]⟩ : ByteArray)] from rfl) (Reps.one (show Kd.M Kd.string _ _ _ (⟨#[97, 64, 48, 32, 123, 64, 49, 32, 98, 64, 50, 32, 125, 64, 51, 32]⟩ : ByteArray) [.string (⟨#[97, 64, 48, 32, 123, 64, 49, 32, 98, 64, 50, 32, 125, 64, 51, 32]⟩ : ByteArray)] from rfl) (Reps.one (show Kd.M Kd.string _ _ _ (⟨#[57]⟩ : ByteArray) [.string (⟨#[57]⟩ : ByteArray)] from rfl) (Reps.one (show Kd.M Kd.string _ _ _ (⟨#[117, 115, 101, 64, 48, 32, 117, 115, 101, 120, 64, 52, 32]⟩ : ByteArray) [.string (⟨#[117, 115, 101, 64, 48, 32, 117, 115, 101, 120, 64, 52, 32]⟩ : ByteArray)] from rfl) (Reps.one (show Kd.M Kd.string _ _ _ (⟨#[123, 64, 48, 32, 123, 64, 50, 32]⟩ : ByteArray) [.string (⟨#[123, 64, 48, 32, 123, 64, 50, 32]⟩ : ByteArray)] from rfl) (Reps.one (show Kd.M Kd.string _ _ _ (⟨#[48]⟩ : ByteArray) [.string (⟨#[48]⟩ : ByteArray)] from rfl) (Reps.one (show Kd.M Kd.string _ _ _ (⟨#[49]⟩ : ByteArray) [.string (⟨#[49]⟩ : ByteArray)] from rfl) (Reps.one (show Kd.M Kd.string _ _ _ (⟨#[49]⟩ : ByteArray) [.string (⟨#[49]⟩ : ByteArray)] from rfl) (Reps.one (show Kd.M Kd.string _ _ _ (⟨#[50]⟩ : ByteArray) [.string (⟨#[50]⟩ : ByteArray)] from rfl) (Reps.one (show Kd.M Kd.string _ _ _ (⟨#[49]⟩ : ByteArray) [.string (⟨#[49]⟩ : ByteArray)] from rfl) (Reps.none _ _))))))))))))); intro v221 w68 ho69 hb hg_ hnew_; clear hg_ hnew_; (first | rw [← Ny220.out] at ho69 | (simp only [Int.reduceToNat] at ho69; rw [← Ny220.out] at ho69)); have n0_ := Aside0.mk (Kd.R_elder' (by (with_reducible repeat (first | apply Kd.R_alloc | apply Kd.R_drewN | apply Kd.R_drew)); exact HO219.out) (Kd.R_base ho69) hb); have n1_ := Aside0.mk (Kd.R_lower (Kd.R_new' ho69 (Kd.R_lt (by (with_reducible repeat (first | apply Kd.R_alloc | apply Kd.R_drewN | apply Kd.R_drew)); exact HO219.out))) (below_size (by repeat (first | (with_reducible first | exact HB.out | apply below_alloc | apply pw_below_drewN | apply below_drew1) | exact HB.out)))); have n2_ := Aside0.mk (below_step (by repeat (first | (with_reducible first | exact HB.out | apply below_alloc | apply pw_below_drewN | apply below_drew1) | exact HB.out)) hb); clear HO219; clear HB; have HO219 := n0_; have HO222 := n1_; have HB := n2_; clear n0_ n1_ n2_; clear hb ho69; obtain ⟨Ao70, co70, eo70⟩ := Kd.R_slice HO219.out; subst eo70) | ((with_reducible refine gate_callee (f := 10) rfl ?_); refine goesL_ (some 19) rfl rfl Tryd.func10 (by kernel_rfl) rfl #[.int .i64 a0, .int .i64 (y217.length : Int)] rfl (by (try simp only [List.map_toArray, List.map_cons, List.map_nil]); first | done | rfl | (simp only [List.length_drop, List.length_take]; rfl)) ?_; (with_reducible refine (deadboltlaw5_within.calls a0 (y217.length : Int) t223 _ A4.out).mono ?_); rintro e w' ⟨rfl, ⟨nd, rfl⟩⟩; refine ⟨_, rfl, ?_⟩; have p224 : 0 ≤ (t223 : Int) := of_decide_eq_true (by first | (with_reducible assumption) | assumption); have q224 : t223 < (y217.length : Int) := of_decide_eq_true (by first | (with_reducible assumption) | assumption); obtain ⟨ad224, e224, hx224_0⟩ := Kd.at_string (Kd.R_reads' HO219.out).2.2 t223 p224 q224; cases e224; replace p224 := eq_true p224; replace q224 := eq_true q224) | ((with_reducible refine gate_callee (f := 12) rfl ?_); refine goesL_ (some 25) rfl rfl Tryd.func12 (by kernel_rfl) rfl #[.string (rdOf ByteArray.empty y217 t223)] rfl (by (try simp only [List.map_toArray, List.map_cons, List.map_nil]); first | done | rfl | (simp only [List.length_drop, List.length_take]; rfl)) ?_; (with_reducible refine (lex_Tokens.calls (rdOf ByteArray.empty y217 t223) t225 t226 t227 _ A7.out).mono ?_); rintro e w71 ⟨v228, rfl, ho0, hb⟩; refine ⟨_, rfl, ?_⟩; have n0_ := Aside0.mk (Kd.R_below (by (with_reducible repeat (first | apply Kd.R_alloc | apply Kd.R_drewN | apply Kd.R_drew)); exact HO219.out) hb); have n1_ := Aside0.mk (Kd.R_below (by (with_reducible repeat (first | apply Kd.R_alloc | apply Kd.R_drewN | apply Kd.R_drew)); exact HO222.out) hb); have n2_ := Aside0.mk (Kd.R_lower ho0 (below_size (by repeat (first | (with_reducible first | exact HB.out | apply below_alloc | apply pw_below_drewN | apply below_drew1) | exact HB.out)))); have n3_ := Aside0.mk (below_step (by repeat (first | (with_reducible first | exact HB.out | apply below_alloc | apply pw_below_drewN | apply below_drew1) | exact HB.out)) hb); clear HO219; clear HO222; clear HB; have HO219 := n0_; have HO222 := n1_; have HO229 := n2_; have HB := n3_; clear n0_ n1_ n2_ n3_; (try clear hb); (try clear hb2); (try clear hk); (try clear hi); (try clear ho0)))
                    have n0_ := Aside0.mk (Kd.R_drew HO219.out)
                    have n1_ := Aside0.mk (Kd.R_drew HO222.out)
                    have n2_ := Aside0.mk (Kd.R_drew HO229.out)
                    have n3_ := Aside0.mk (below_drew1 HB.out)
                    clear HO219
                    clear HO222
                    clear HO229
                    clear HB
                    have HO219 := n0_
                    have HO222 := n1_
                    have HO229 := n2_
                    have HB := n3_
                    clear n0_ n1_ n2_ n3_
                    obtain ⟨Ao73, co73, eo73⟩ := Kd.R_slice HO229.out
                    (first | subst eo73 | (injection eo73 with f1_ f2_ f3_; have f4_ := f1_.symm; have f5_ := f3_.symm; clear f1_ f2_ f3_; subst f4_; subst f5_))
                    obtain ⟨Ao74, co74, eo74⟩ := Kd.R_slice HO222.out
                    (first | subst eo74 | (injection eo74 with f1_ f2_ f3_; have f4_ := f1_.symm; have f5_ := f3_.symm; clear f1_ f2_ f3_; subst f4_; subst f5_))
                    have p230 : 0 ≤ (t223 : Int) := of_decide_eq_true (by first | (with_reducible assumption) | assumption)
                    have q230 : t223 < (y220.length : Int) := of_decide_eq_true (by first | (with_reducible assumption) | assumption)
                    obtain ⟨ad230, e230, hx230_0⟩ := Kd.at_string (Kd.R_reads' HO222.out).2.2 t223 p230 q230
                    cases e230
                    replace p230 := eq_true p230
                    replace q230 := eq_true q230
                    refine start_ (n := 28) (S := fun w' => w'.cell? (ad230.add (t223).toNat) = some (.string (rdOf ByteArray.empty y220 t223))) (ds := []) #[false, false, false, false, false, false, false, false, false, false, false, false, false, false, false, false, false, false, false, false, false, false, false, false, false, false, false, false] (by kernel_rfl) rfl rfl (hx230_0) (fun hHeld => ?_); refine with_tabW deadboltlaw5_LexKnown.tab8 deadboltlaw5_LexKnown.bits8 (fun HT_ HW_ => ?_)
                    generalize w71.drew = w72 at HO219 HO222 HO229 HB hx230_0 hHeld ⊢
                    refine pure_ (i := 0) (N := some 31) (v := ?_) (a' := ?_) #[true, false, false, false, false, false, false, false, false, false, false, false, false, false, false, false, false, false, false, false, false, false, false, false, false, false, false, false] rfl rfl (any_of HT_.out (by kernel_rfl)) (fun _ _ _ h => h) (Or.inl ⟨by rfl, ?_⟩) ?_ ?_
                    rotate_left
                    · intro w'
                      go_simp
                      with_reducible rfl
                    rotate_left
                    · simp only [Act.put, List.setIfInBounds_toArray, List.set_cons_zero, List.set_cons_succ, i64_w, i32_w]
                      rfl
                    refine pure_ (i := 1) (N := some 32) (v := ?_) (a' := ?_) #[true, true, false, false, false, false, false, false, false, false, false, false, false, false, false, false, false, false, false, false, false, false, false, false, false, false, false, false] rfl rfl (any_of HT_.out (by kernel_rfl)) (fun _ _ _ h => h) (Or.inl ⟨by rfl, ?_⟩) ?_ ?_
                    rotate_left
                    · intro w'
                      go_simp
                      with_reducible rfl
                    rotate_left
                    · simp only [Act.put, List.setIfInBounds_toArray, List.set_cons_zero, List.set_cons_succ, i64_w, i32_w]
                      rfl
                    refine pure_ (i := 2) (N := some 33) (v := ?_) (a' := ?_) #[true, true, true, false, false, false, false, false, false, false, false, false, false, false, false, false, false, false, false, false, false, false, false, false, false, false, false, false] rfl rfl (any_of HT_.out (by kernel_rfl)) (fun _ _ _ h => h) (Or.inl ⟨by rfl, ?_⟩) ?_ ?_
                    rotate_left
                    · intro w'
                      go_simp
                      with_reducible rfl
                    rotate_left
                    · simp only [Act.put, List.setIfInBounds_toArray, List.set_cons_zero, List.set_cons_succ, i64_w, i32_w]
                      rfl
                    refine pure_ (i := 3) (N := some 34) (v := ?_) (a' := ?_) #[true, true, true, true, false, false, false, false, false, false, false, false, false, false, false, false, false, false, false, false, false, false, false, false, false, false, false, false] rfl rfl (any_of HT_.out (by kernel_rfl)) (fun _ _ _ h => h) (Or.inl ⟨by rfl, ?_⟩) ?_ ?_
                    rotate_left
                    · intro w'
                      go_simp
                      with_reducible rfl
                    rotate_left
                    · simp only [Act.put, List.setIfInBounds_toArray, List.set_cons_zero, List.set_cons_succ, i64_w, i32_w]
                      rfl
                    refine pure_ (i := 4) (N := some 35) (v := ?_) (a' := ?_) #[true, true, true, true, true, false, false, false, false, false, false, false, false, false, false, false, false, false, false, false, false, false, false, false, false, false, false, false] rfl rfl (any_of HT_.out (by kernel_rfl)) (fun _ _ _ h => h) (Or.inl ⟨by rfl, ?_⟩) ?_ ?_
                    rotate_left
                    · intro w'
                      go_simp
                      with_reducible rfl
                    rotate_left
                    · simp only [Act.put, List.setIfInBounds_toArray, List.set_cons_zero, List.set_cons_succ, i64_w, i32_w]
                      rfl
                    refine pure_ (i := 5) (N := some 36) (v := ?_) (a' := ?_) #[true, true, true, true, true, true, false, false, false, false, false, false, false, false, false, false, false, false, false, false, false, false, false, false, false, false, false, false] rfl rfl (any_of HT_.out (by kernel_rfl)) (fun _ _ _ h => h) (Or.inl ⟨by rfl, ?_⟩) ?_ ?_
                    rotate_left
                    · intro w'
                      go_simp
                      with_reducible rfl
                    rotate_left
                    · simp only [Act.put, List.setIfInBounds_toArray, List.set_cons_zero, List.set_cons_succ, i64_w, i32_w]
                      rfl
                    refine pure_ (i := 6) (N := some 37) (v := ?_) (a' := ?_) #[true, true, true, true, true, true, true, false, false, false, false, false, false, false, false, false, false, false, false, false, false, false, false, false, false, false, false, false] rfl rfl (any_of HT_.out (by kernel_rfl)) (fun _ _ _ h => h) (Or.inl ⟨by rfl, ?_⟩) ?_ ?_
                    rotate_left
                    · intro w'
                      go_simp
                      with_reducible rfl
                    rotate_left
                    · simp only [Act.put, List.setIfInBounds_toArray, List.set_cons_zero, List.set_cons_succ, i64_w, i32_w]
                      rfl
                    refine pure_ (i := 7) (N := some 38) (v := ?_) (a' := ?_) #[true, true, true, true, true, true, true, true, false, false, false, false, false, false, false, false, false, false, false, false, false, false, false, false, false, false, false, false] rfl rfl (any_of HT_.out (by kernel_rfl)) (fun _ _ _ h => h) (Or.inl ⟨by rfl, ?_⟩) ?_ ?_
                    rotate_left
                    · intro w'
                      go_simp
                      with_reducible rfl
                    rotate_left
                    · simp only [Act.put, List.setIfInBounds_toArray, List.set_cons_zero, List.set_cons_succ, i64_w, i32_w]
                      rfl
                    refine pure_ (i := 8) (N := some 39) (v := ?_) (a' := ?_) #[true, true, true, true, true, true, true, true, true, false, false, false, false, false, false, false, false, false, false, false, false, false, false, false, false, false, false, false] rfl rfl (any_of HT_.out (by kernel_rfl)) (fun _ _ _ h => h) (Or.inl ⟨by rfl, ?_⟩) ?_ ?_
                    rotate_left
                    · intro w'
                      go_simp
                      with_reducible rfl
                    rotate_left
                    · simp only [Act.put, List.setIfInBounds_toArray, List.set_cons_zero, List.set_cons_succ, i64_w, i32_w]
                      rfl
                    refine pure_ (i := 9) (N := some 40) (v := ?_) (a' := ?_) #[true, true, true, true, true, true, true, true, true, true, false, false, false, false, false, false, false, false, false, false, false, false, false, false, false, false, false, false] rfl rfl (any_of HT_.out (by kernel_rfl)) (fun _ _ _ h => h) (Or.inl ⟨by rfl, ?_⟩) ?_ ?_
                    rotate_left
                    · intro w'
                      go_simp
                      with_reducible rfl
                    rotate_left
                    · simp only [Act.put, List.setIfInBounds_toArray, List.set_cons_zero, List.set_cons_succ, i64_w, i32_w]
                      rfl
                    refine pure_ (i := 10) (N := some 41) (v := ?_) (a' := ?_) #[true, true, true, true, true, true, true, true, true, true, true, false, false, false, false, false, false, false, false, false, false, false, false, false, false, false, false, false] rfl rfl (any_of HT_.out (by kernel_rfl)) (fun _ _ _ h => h) (Or.inl ⟨by rfl, ?_⟩) ?_ ?_
                    rotate_left
                    · intro w'
                      go_simp
                      with_reducible rfl
                    rotate_left
                    · simp only [Act.put, List.setIfInBounds_toArray, List.set_cons_zero, List.set_cons_succ, i64_w, i32_w]
                      rfl
                    refine pure_ (i := 12) (N := some 43) (v := ?_) (a' := ?_) #[true, true, true, true, true, true, true, true, true, true, true, false, true, false, false, false, false, false, false, false, false, false, false, false, false, false, false, false] rfl rfl (any_of HT_.out (by kernel_rfl)) (fun _ _ _ h => h) (Or.inl ⟨by rfl, ?_⟩) ?_ ?_
                    rotate_left
                    · intro w'
                      go_simp
                      with_reducible rfl
                    rotate_left
                    · simp only [Act.put, List.setIfInBounds_toArray, List.set_cons_zero, List.set_cons_succ, i64_w, i32_w]
                      rfl
                    refine pure_ (i := 13) (N := some 44) (v := ?_) (a' := ?_) #[true, true, true, true, true, true, true, true, true, true, true, false, true, true, false, false, false, false, false, false, false, false, false, false, false, false, false, false] rfl rfl (any_of HT_.out (by kernel_rfl)) (fun _ _ _ h => h) (Or.inl ⟨by rfl, ?_⟩) ?_ ?_
                    rotate_left
                    · intro w'
                      go_simp
                      with_reducible rfl
                    rotate_left
                    · simp only [Act.put, List.setIfInBounds_toArray, List.set_cons_zero, List.set_cons_succ, i64_w, i32_w]
                      rfl
                    refine pure_ (i := 14) (N := some 45) (v := ?_) (a' := ?_) #[true, true, true, true, true, true, true, true, true, true, true, false, true, true, true, false, false, false, false, false, false, false, false, false, false, false, false, false] rfl rfl (any_of HT_.out (by kernel_rfl)) (fun _ _ _ h => h) (Or.inl ⟨by rfl, ?_⟩) ?_ ?_
                    rotate_left
                    · intro w'
                      go_simp
                      with_reducible rfl
                    rotate_left
                    · simp only [Act.put, List.setIfInBounds_toArray, List.set_cons_zero, List.set_cons_succ, i64_w, i32_w]
                      rfl
                    refine take_ (i := 11) (N := some 42) (v := ?_) (a' := ?_) #[true, true, true, true, true, true, true, true, true, true, true, true, true, true, true, false, false, false, false, false, false, false, false, false, false, false, false, false] rfl rfl (take_ofW HT_.out HW_.out (by kernel_rfl)) (fun _ _ _ h => h) (Or.inl ⟨by rfl, ?_⟩) hHeld ?_ ?_
                    rotate_left
                    · intro w' s0
                      go_simp
                      with_reducible rfl
                    rotate_left
                    · simp only [Act.put, List.setIfInBounds_toArray, List.set_cons_zero, List.set_cons_succ, i64_w, i32_w]
                      rfl
                    refine one_ (i := 15) (N := some 46) #[true, true, true, true, true, true, true, true, true, true, true, true, true, true, true, true, false, false, false, false, false, false, false, false, false, false, false, false] rfl rfl (one_of HT_.out (by kernel_rfl)) (by decide) (fun K hK => ?_)
                    refine Kd.R_lit_step (Kd.int .u8) _ 5 ?hg (N := 46) ?hd (xs := ([(wrap64 (48 + t226)) % 256] : List Int)) (inner := [.int .u8 ((wrap64 (48 + t226)) % 256)]) (ok := fun _ => True) (okp := fun _ => True) ?hr ?hp (fun _ hk => hk) trivial (Below.refl _ _) (Nat.le_refl _) (by simp) ?_; (case hd => rfl); (case hg => rfl); (case hr => first | (go_simp; done) | (go_simp; rfl)); (case hp => exact (Reps.one (show Kd.M (Kd.int .u8) _ _ _ ((wrap64 (48 + t226)) % 256) [.int .u8 ((wrap64 (48 + t226)) % 256)] from rfl) (Reps.none _ _)))
                    intro v232 w75 ho76 hb hg_ hnew_
                    have HS0_ := (hb.cell (World.block_lt_of_cell? _ _ (hHeld))).trans (hHeld)
                    clear hg_ hnew_
                    (first | rw [← Ny231.out] at ho76 | (simp only [Int.reduceToNat] at ho76; rw [← Ny231.out] at ho76))
                    have n0_ := Aside0.mk (Kd.R_below (by (with_reducible repeat (first | apply Kd.R_alloc | apply Kd.R_drewN | apply Kd.R_drew)); exact HO219.out) hb)
                    have n1_ := Aside0.mk (Kd.R_below (by (with_reducible repeat (first | apply Kd.R_alloc | apply Kd.R_drewN | apply Kd.R_drew)); exact HO222.out) hb)
                    have n2_ := Aside0.mk (Kd.R_below (by (with_reducible repeat (first | apply Kd.R_alloc | apply Kd.R_drewN | apply Kd.R_drew)); exact HO229.out) hb)
                    have n3_ := Aside0.mk (Kd.R_lower ho76 (below_size (by repeat (first | (with_reducible first | exact HB.out | apply below_alloc | apply pw_below_drewN | apply below_drew1) | exact HB.out))))
                    have n4_ := Aside0.mk (below_step (by repeat (first | (with_reducible first | exact HB.out | apply below_alloc | apply pw_below_drewN | apply below_drew1) | exact HB.out)) hb)
                    clear HO219
                    clear HO222
                    clear HO229
                    clear HB
                    have HO219 := n0_
                    have HO222 := n1_
                    have HO229 := n2_
                    have HO233 := n3_
                    have HB := n4_
                    clear n0_ n1_ n2_ n3_ n4_
                    clear hb ho76
                    refine hK.out _ _ (HS0_) (fun hHeld => ?_)
                    clear hK K
                    refine norm_ (a' := ?_) ?_ ?_
                    rotate_left
                    · show Act.put _ (some 46) _ = _
                      simp only [Act.put, List.setIfInBounds_toArray, List.set_cons_zero, List.set_cons_succ, i64_w, i32_w]
                      rfl
                    refine one_ (i := 16) (N := some 47) #[true, true, true, true, true, true, true, true, true, true, true, true, true, true, true, true, true, false, false, false, false, false, false, false, false, false, false, false] rfl rfl (one_of HT_.out (by kernel_rfl)) (by decide) (fun K hK => ?_)
                    have hcv77 := own_string (P := Tryd.prog) Tryd.underlying24 Tryd.underlying5 Tryd.underlying9 (Kd.own_of_R HO233.out)
                    refine value_ (w1 := ?_) (v := ?_) (by rfl) rfl ?_ ?_
                    rotate_left 2
                    · go_simp
                      constructor
                      · rfl
                      · rfl
                    clear hcv77
                    refine hK.out _ _ (hHeld) (fun hHeld => ?_)
                    clear hK K
                    refine norm_ (a' := ?_) ?_ ?_
                    rotate_left
                    · show Act.put _ (some 47) _ = _
                      simp only [Act.put, List.setIfInBounds_toArray, List.set_cons_zero, List.set_cons_succ, i64_w, i32_w]
                      rfl
                    refine pure_ (i := 17) (N := some 48) (v := ?_) (a' := ?_) #[true, true, true, true, true, true, true, true, true, true, true, true, true, true, true, true, true, true, false, false, false, false, false, false, false, false, false, false] rfl rfl (any_of HT_.out (by kernel_rfl)) (fun _ _ _ h => h) (Or.inl ⟨by rfl, ?_⟩) ?_ ?_
                    rotate_left
                    · intro w'
                      go_simp
                      with_reducible rfl
                    rotate_left
                    · simp only [Act.put, List.setIfInBounds_toArray, List.set_cons_zero, List.set_cons_succ, i64_w, i32_w]
                      rfl
                    refine pure_ (i := 18) (N := some 49) (v := ?_) (a' := ?_) #[true, true, true, true, true, true, true, true, true, true, true, true, true, true, true, true, true, true, true, false, false, false, false, false, false, false, false, false] rfl rfl (any_of HT_.out (by kernel_rfl)) (fun _ _ _ h => h) (Or.inl ⟨by rfl, ?_⟩) ?_ ?_
                    rotate_left
                    · intro w'
                      go_simp
                      with_reducible rfl
                    rotate_left
                    · simp only [Act.put, List.setIfInBounds_toArray, List.set_cons_zero, List.set_cons_succ, i64_w, i32_w]
                      rfl
                    refine pure_ (i := 19) (N := some 50) (v := ?_) (a' := ?_) #[true, true, true, true, true, true, true, true, true, true, true, true, true, true, true, true, true, true, true, true, false, false, false, false, false, false, false, false] rfl rfl (any_of HT_.out (by kernel_rfl)) (fun _ _ _ h => h) (Or.inl ⟨by rfl, ?_⟩) ?_ ?_
                    rotate_left
                    · intro w'
                      go_simp
                      with_reducible rfl
                    rotate_left
                    · simp only [Act.put, List.setIfInBounds_toArray, List.set_cons_zero, List.set_cons_succ, i64_w, i32_w]
                      rfl
                    refine pure_ (i := 20) (N := some 51) (v := ?_) (a' := ?_) #[true, true, true, true, true, true, true, true, true, true, true, true, true, true, true, true, true, true, true, true, true, false, false, false, false, false, false, false] rfl rfl (any_of HT_.out (by kernel_rfl)) (fun _ _ _ h => h) (Or.inl ⟨by rfl, ?_⟩) ?_ ?_
                    rotate_left
                    · intro w'
                      go_simp
                      with_reducible rfl
                    rotate_left
                    · simp only [Act.put, List.setIfInBounds_toArray, List.set_cons_zero, List.set_cons_succ, i64_w, i32_w]
                      rfl
                    refine pure_ (i := 21) (N := some 52) (v := ?_) (a' := ?_) #[true, true, true, true, true, true, true, true, true, true, true, true, true, true, true, true, true, true, true, true, true, true, false, false, false, false, false, false] rfl rfl (any_of HT_.out (by kernel_rfl)) (fun _ _ _ h => h) (Or.inl ⟨by rfl, ?_⟩) ?_ ?_
                    rotate_left
                    · intro w'
                      go_simp
                      with_reducible rfl
                    rotate_left
                    · simp only [Act.put, List.setIfInBounds_toArray, List.set_cons_zero, List.set_cons_succ, i64_w, i32_w]
                      rfl
                    refine pure_ (i := 22) (N := some 53) (v := ?_) (a' := ?_) #[true, true, true, true, true, true, true, true, true, true, true, true, true, true, true, true, true, true, true, true, true, true, true, false, false, false, false, false] rfl rfl (any_of HT_.out (by kernel_rfl)) (fun _ _ _ h => h) (Or.inl ⟨by rfl, ?_⟩) ?_ ?_
                    rotate_left
                    · intro w'
                      go_simp
                      with_reducible rfl
                    rotate_left
                    · simp only [Act.put, List.setIfInBounds_toArray, List.set_cons_zero, List.set_cons_succ, i64_w, i32_w]
                      rfl
                    refine pure_ (i := 23) (N := some 54) (v := ?_) (a' := ?_) #[true, true, true, true, true, true, true, true, true, true, true, true, true, true, true, true, true, true, true, true, true, true, true, true, false, false, false, false] rfl rfl (any_of HT_.out (by kernel_rfl)) (fun _ _ _ h => h) (Or.inl ⟨by rfl, ?_⟩) ?_ ?_
                    rotate_left
                    · intro w'
                      go_simp
                      with_reducible rfl
                    rotate_left
                    · simp only [Act.put, List.setIfInBounds_toArray, List.set_cons_zero, List.set_cons_succ, i64_w, i32_w]
                      rfl
                    refine pure_ (i := 24) (N := some 55) (v := ?_) (a' := ?_) #[true, true, true, true, true, true, true, true, true, true, true, true, true, true, true, true, true, true, true, true, true, true, true, true, true, false, false, false] rfl rfl (any_of HT_.out (by kernel_rfl)) (fun _ _ _ h => h) (Or.inl ⟨by rfl, ?_⟩) ?_ ?_
                    rotate_left
                    · intro w'
                      go_simp
                      with_reducible rfl
                    rotate_left
                    · simp only [Act.put, List.setIfInBounds_toArray, List.set_cons_zero, List.set_cons_succ, i64_w, i32_w]
                      rfl
                    refine pure_ (i := 25) (N := some 56) (v := ?_) (a' := ?_) #[true, true, true, true, true, true, true, true, true, true, true, true, true, true, true, true, true, true, true, true, true, true, true, true, true, true, false, false] rfl rfl (any_of HT_.out (by kernel_rfl)) (fun _ _ _ h => h) (Or.inl ⟨by rfl, ?_⟩) ?_ ?_
                    rotate_left
                    · intro w'
                      go_simp
                      with_reducible rfl
                    rotate_left
                    · simp only [Act.put, List.setIfInBounds_toArray, List.set_cons_zero, List.set_cons_succ, i64_w, i32_w]
                      rfl
                    refine pure_ (i := 26) (N := some 57) (v := ?_) (a' := ?_) #[true, true, true, true, true, true, true, true, true, true, true, true, true, true, true, true, true, true, true, true, true, true, true, true, true, true, true, false] rfl rfl (any_of HT_.out (by kernel_rfl)) (fun _ _ _ h => h) (Or.inl ⟨by rfl, ?_⟩) ?_ ?_
                    rotate_left
                    · intro w'
                      go_simp
                      with_reducible rfl
                    rotate_left
                    · simp only [Act.put, List.setIfInBounds_toArray, List.set_cons_zero, List.set_cons_succ, i64_w, i32_w]
                      rfl
                    refine pure_ (i := 27) (N := some 2) (v := ?_) (a' := ?_) #[true, true, true, true, true, true, true, true, true, true, true, true, true, true, true, true, true, true, true, true, true, true, true, true, true, true, true, true] rfl rfl (any_of HT_.out (by kernel_rfl)) (fun _ _ _ h => h) (Or.inl ⟨by rfl, ?_⟩) ?_ ?_
                    rotate_left
                    · intro w'
                      go_simp
                      with_reducible rfl
                    rotate_left
                    · simp only [Act.put, List.setIfInBounds_toArray, List.set_cons_zero, List.set_cons_succ, i64_w, i32_w]
                      rfl
                    refine done_ (done_of HT_.out (by kernel_rfl)) ?_
                    try go_wp2
                    go_ret
                    exact ⟨by first | rfl | (simp [errW_none, errW_some] <;> rfl) | (simp [*, errW_none, errW_some] <;> rfl), by repeat (first | (with_reducible first | exact HB.out | apply below_alloc | apply pw_below_drewN | apply below_drew1) | exact HB.out)⟩
                  · rw [if_neg c64] at H
                    have c64b0 : (t223 == 3) = false := beq_eq_false_iff_ne.mpr c64
                    have c64b1 : (t223 != 3) = true := bne_iff_ne.mpr c64
                    obtain rfl := Option.some.inj H
                    go_enter Tryd.func6, Tryd.ntmps6
                    try go_wp2_with (first | ((with_reducible refine gate_callee (f := 9) rfl ?_); refine goesL_ (some 12) rfl rfl Tryd.func9 (by kernel_rfl) rfl #[] rfl (by (try simp only [List.map_toArray, List.map_cons, List.map_nil]); first | done | rfl | (simp only [List.length_drop, List.length_take]; rfl)) ?_; (with_reducible refine (deadboltlaw5_known.calls  true _ A2.out (by first | exact HG.out | exact GL.drewN HG.out _ | exact GL.drewN (GL.drewN HG.out _) _ | exact GL.of_below HG.out (by repeat (first | (with_reducible first | exact HB.out | apply below_alloc | apply pw_below_drewN | apply below_drew1) | exact HB.out)))).mono ?_); rintro e w78 ⟨rfl, hb⟩; refine ⟨_, rfl, ?_⟩; have n0_ := Aside0.mk (below_step (by repeat (first | (with_reducible first | exact HB.out | apply below_alloc | apply pw_below_drewN | apply below_drew1) | exact HB.out)) hb); clear HB; have HB := n0_; clear n0_; (try clear hb); (try clear hb2); (try clear hk); (try clear hi)) | ((with_reducible refine gate_dst (N := 14) rfl ?_); (try (refine gate_guard (by rfl) ?_; dsimp only)); refine Kd.R_lit Kd.string _ 9 ?hg (N := 14) ?hd (xs := ([(⟨#[]⟩ : ByteArray), (⟨#[32, 9, 10, 32]⟩ : ByteArray), (⟨#[97, 123, 98, 125]⟩ : ByteArray), (⟨#[120, 57, 32, 57]⟩ : ByteArray), (⟨#[117, 115, 101, 32, 117, 115, 101, 120]⟩ : ByteArray), (⟨#[123, 32, 123]⟩ : ByteArray), (⟨#[65]⟩ : ByteArray), (⟨#[97, 45, 98]⟩ : ByteArray), (⟨#[97, 13]⟩ : ByteArray), (⟨#[97, 98, 0]⟩ : ByteArray), (⟨#[97, 95, 98]⟩ : ByteArray)] : List ByteArray)) (inner := [.string (⟨#[]⟩ : ByteArray), .string (⟨#[32, 9, 10, 32]⟩ : ByteArray), .string (⟨#[97, 123, 98, 125]⟩ : ByteArray), .string (⟨#[120, 57, 32, 57]⟩ : ByteArray), .string (⟨#[117, 115, 101, 32, 117, 115, 101, 120]⟩ : ByteArray), .string (⟨#[123, 32, 123]⟩ : ByteArray), .string (⟨#[65]⟩ : ByteArray), .string (⟨#[97, 45, 98]⟩ : ByteArray), .string (⟨#[97, 13]⟩ : ByteArray), .string (⟨#[97, 98, 0]⟩ : ByteArray), .string (⟨#[97, 95, 98]⟩ : ByteArray)]) (ok := fun _ => True) (okp := fun _ => True) ?hr ?hp (fun _ hk => hk) trivial (Below.refl _ _) (Nat.le_refl _) (by simp) ?_; (case hd => rfl); (case hg => rfl); (case hr => first | (go_simp; done) | (go_simp; rfl)); (case hp => exact (Reps.one (show Kd.M Kd.string _ _ _ (⟨#[]⟩ : ByteArray) [.string (⟨#[]⟩ : ByteArray)] from rfl) (Reps.one (show Kd.M Kd.string _ _ _ (⟨#[32, 9, 10, 32]⟩ : ByteArray) [.string (⟨#[32, 9, 10, 32]⟩ : ByteArray)] from rfl) (Reps.one (show Kd.M Kd.string _ _ _ (⟨#[97, 123, 98, 125]⟩ : ByteArray) [.string (⟨#[97, 123, 98, 125]⟩ : ByteArray)] from rfl) (Reps.one (show Kd.M Kd.string _ _ _ (⟨#[120, 57, 32, 57]⟩ : ByteArray) [.string (⟨#[120, 57, 32, 57]⟩ : ByteArray)] from rfl) (Reps.one (show Kd.M Kd.string _ _ _ (⟨#[117, 115, 101, 32, 117, 115, 101, 120]⟩ : ByteArray) [.string (⟨#[117, 115, 101, 32, 117, 115, 101, 120]⟩ : ByteArray)] from rfl) (Reps.one (show Kd.M Kd.string _ _ _ (⟨#[123, 32, 123]⟩ : ByteArray) [.string (⟨#[123, 32, 123]⟩ : ByteArray)] from rfl) (Reps.one (show Kd.M Kd.string _ _ _ (⟨#[65]⟩ : ByteArray) [.string (⟨#[65]⟩ : ByteArray)] from rfl) (Reps.one (show Kd.M Kd.string _ _ _ (⟨#[97, 45, 98]⟩ : ByteArray) [.string (⟨#[97, 45, 98]⟩ : ByteArray)] from rfl) (Reps.one (show Kd.M Kd.string _ _ _ (⟨#[97, 13]⟩ : ByteArray) [.string (⟨#[97, 13]⟩ : ByteArray)] from rfl) (Reps.one (show Kd.M Kd.string _ _ _ (⟨#[97, 98, 0]⟩ : ByteArray) [.string (⟨#[97, 98, 0]⟩ : ByteArray)] from rfl) (Reps.one (show Kd.M Kd.string _ _ _ (⟨#[97, 95, 98]⟩ : ByteArray) [.string (⟨#[97, 95, 98]⟩ : ByteArray)] from rfl) (Reps.none _ _))))))))))))); intro v218 w79 ho80 hb hg_ hnew_; clear hg_ hnew_; (first | rw [← Ny217.out] at ho80 | (simp only [Int.reduceToNat] at ho80; rw [← Ny217.out] at ho80)); have n0_ := Aside0.mk (Kd.R_lower ho80 (below_size (by repeat (first | (with_reducible first | exact HB.out | apply below_alloc | apply pw_below_drewN | apply below_drew1) | exact HB.out)))); have n1_ := Aside0.mk (below_step (by repeat (first | (with_reducible first | exact HB.out | apply below_alloc | apply pw_below_drewN | apply below_drew1) | exact HB.out)) hb); clear HB; have HO219 := n0_; have HB := n1_; clear n0_ n1_; clear hb ho80) | ((with_reducible refine gate_dst (N := 15) rfl ?_); (try (refine gate_guard (by rfl) ?_; dsimp only)); refine Kd.R_lit Kd.string _ 9 ?hg (N := 15) ?hd (xs := ([(⟨#[]⟩ : ByteArray), (⟨#[]⟩ : ByteArray), (⟨#[97, 64, 48, 32, 123, 64, 49, 32, 98, 64, 50, 32, 125, 64, 51, 32]⟩ : ByteArray), (⟨#[57]⟩ : ByteArray), (⟨#[117, 115, 101, 64, 48, 32, 117, 115, 101, 120, 64, 52, 32]⟩ : ByteArray), (⟨#[123, 64, 48, 32, 123, 64, 50, 32]⟩ : ByteArray), (⟨#[48]⟩ : ByteArray), (⟨#[49]⟩ : ByteArray), (⟨#[49]⟩ : ByteArray), (⟨#[50]⟩ : ByteArray), (⟨#[49]⟩ : ByteArray)] : List ByteArray)) (inner := [.string (⟨#[]⟩ : ByteArray), .string (⟨#[]⟩ : ByteArray), .string (⟨#[97, 64, 48, 32, 123, 64, 49, 32, 98, 64, 50, 32, 125, 64, 51, 32]⟩ : ByteArray), .string (⟨#[57]⟩ : ByteArray), .string (⟨#[117, 115, 101, 64, 48, 32, 117, 115, 101, 120, 64, 52, 32]⟩ : ByteArray), .string (⟨#[123, 64, 48, 32, 123, 64, 50, 32]⟩ : ByteArray), .string (⟨#[48]⟩ : ByteArray), .string (⟨#[49]⟩ : ByteArray), .string (⟨#[49]⟩ : ByteArray), .string (⟨#[50]⟩ : ByteArray), .string (⟨#[49]⟩ : ByteArray)]) (ok := fun _ => True) (okp := fun _ => True) ?hr ?hp (fun _ hk => hk) trivial (Below.refl _ _) (Nat.le_refl _) (by simp) ?_; (case hd => rfl); (case hg => rfl); (case hr => first | (go_simp; done) | (go_simp; rfl)); (case hp => exact (Reps.one (show Kd.M Kd.string _ _ _ (⟨#[]⟩ : ByteArray) [.string (⟨#[]⟩ : ByteArray)] from rfl) (Reps.one (show Kd.M Kd.string _ _ _ (⟨#[]⟩ : ByteArray) [.string (⟨#[]⟩ : ByteArray)] from rfl) (Reps.one (show Kd.M Kd.string _ _ _ (⟨#[97, 64, 48, 32, 123, 64, 49, 32, 98, 64, 50, 32, 125, 64, 51, 32]⟩ : ByteArray) [.string (⟨#[97, 64, 48, 32, 123, 64, 49, 32, 98, 64, 50, 32, 125, 64, 51, 32]⟩ : ByteArray)] from rfl) (Reps.one (show Kd.M Kd.string _ _ _ (⟨#[57]⟩ : ByteArray) [.string (⟨#[57]⟩ : ByteArray)] from rfl) (Reps.one (show Kd.M Kd.string _ _ _ (⟨#[117, 115, 101, 64, 48, 32, 117, 115, 101, 120, 64, 52, 32]⟩ : ByteArray) [.string (⟨#[117, 115, 101, 64, 48, 32, 117, 115, 101, 120, 64, 52, 32]⟩ : ByteArray)] from rfl) (Reps.one (show Kd.M Kd.string _ _ _ (⟨#[123, 64, 48, 32, 123, 64, 50, 32]⟩ : ByteArray) [.string (⟨#[123, 64, 48, 32, 123, 64, 50, 32]⟩ : ByteArray)] from rfl) (Reps.one (show Kd.M Kd.string _ _ _ (⟨#[48]⟩ : ByteArray) [.string (⟨#[48]⟩ : ByteArray)] from rfl) (Reps.one (show Kd.M Kd.string _ _ _ (⟨#[49]⟩ : ByteArray) [.string (⟨#[49]⟩ : ByteArray)] from rfl) (Reps.one (show Kd.M Kd.string _ _ _ (⟨#[49]⟩ : ByteArray) [.string (⟨#[49]⟩ : ByteArray)] from rfl) (Reps.one (show Kd.M Kd.string _ _ _ (⟨#[50]⟩ : ByteArray) [.string (⟨#[50]⟩ : ByteArray)] from rfl) (Reps.one (show Kd.M Kd.string _ _ _ (⟨#[49]⟩ : ByteArray) [.string (⟨#[49]⟩ : ByteArray)] from rfl) (Reps.none _ _))))))))))))); intro v221 w81 ho82 hb hg_ hnew_; clear hg_ hnew_; (first | rw [← Ny220.out] at ho82 | (simp only [Int.reduceToNat] at ho82; rw [← Ny220.out] at ho82)); have n0_ := Aside0.mk (Kd.R_elder' (by (with_reducible repeat (first | apply Kd.R_alloc | apply Kd.R_drewN | apply Kd.R_drew)); exact HO219.out) (Kd.R_base ho82) hb); have n1_ := Aside0.mk (Kd.R_lower (Kd.R_new' ho82 (Kd.R_lt (by (with_reducible repeat (first | apply Kd.R_alloc | apply Kd.R_drewN | apply Kd.R_drew)); exact HO219.out))) (below_size (by repeat (first | (with_reducible first | exact HB.out | apply below_alloc | apply pw_below_drewN | apply below_drew1) | exact HB.out)))); have n2_ := Aside0.mk (below_step (by repeat (first | (with_reducible first | exact HB.out | apply below_alloc | apply pw_below_drewN | apply below_drew1) | exact HB.out)) hb); clear HO219; clear HB; have HO219 := n0_; have HO222 := n1_; have HB := n2_; clear n0_ n1_ n2_; clear hb ho82; obtain ⟨Ao83, co83, eo83⟩ := Kd.R_slice HO219.out; subst eo83) | ((with_reducible refine gate_callee (f := 10) rfl ?_); refine goesL_ (some 19) rfl rfl Tryd.func10 (by kernel_rfl) rfl #[.int .i64 a0, .int .i64 (y217.length : Int)] rfl (by (try simp only [List.map_toArray, List.map_cons, List.map_nil]); first | done | rfl | (simp only [List.length_drop, List.length_take]; rfl)) ?_; (with_reducible refine (deadboltlaw5_within.calls a0 (y217.length : Int) t223 _ A4.out).mono ?_); rintro e w' ⟨rfl, ⟨nd, rfl⟩⟩; refine ⟨_, rfl, ?_⟩; have p224 : 0 ≤ (t223 : Int) := of_decide_eq_true (by first | (with_reducible assumption) | assumption); have q224 : t223 < (y217.length : Int) := of_decide_eq_true (by first | (with_reducible assumption) | assumption); obtain ⟨ad224, e224, hx224_0⟩ := Kd.at_string (Kd.R_reads' HO219.out).2.2 t223 p224 q224; cases e224; replace p224 := eq_true p224; replace q224 := eq_true q224) | ((with_reducible refine gate_callee (f := 12) rfl ?_); refine goesL_ (some 25) rfl rfl Tryd.func12 (by kernel_rfl) rfl #[.string (rdOf ByteArray.empty y217 t223)] rfl (by (try simp only [List.map_toArray, List.map_cons, List.map_nil]); first | done | rfl | (simp only [List.length_drop, List.length_take]; rfl)) ?_; (with_reducible refine (lex_Tokens.calls (rdOf ByteArray.empty y217 t223) t225 t226 t227 _ A7.out).mono ?_); rintro e w84 ⟨v228, rfl, ho0, hb⟩; refine ⟨_, rfl, ?_⟩; have n0_ := Aside0.mk (Kd.R_below (by (with_reducible repeat (first | apply Kd.R_alloc | apply Kd.R_drewN | apply Kd.R_drew)); exact HO219.out) hb); have n1_ := Aside0.mk (Kd.R_below (by (with_reducible repeat (first | apply Kd.R_alloc | apply Kd.R_drewN | apply Kd.R_drew)); exact HO222.out) hb); have n2_ := Aside0.mk (Kd.R_lower ho0 (below_size (by repeat (first | (with_reducible first | exact HB.out | apply below_alloc | apply pw_below_drewN | apply below_drew1) | exact HB.out)))); have n3_ := Aside0.mk (below_step (by repeat (first | (with_reducible first | exact HB.out | apply below_alloc | apply pw_below_drewN | apply below_drew1) | exact HB.out)) hb); clear HO219; clear HO222; clear HB; have HO219 := n0_; have HO222 := n1_; have HO229 := n2_; have HB := n3_; clear n0_ n1_ n2_ n3_; (try clear hb); (try clear hb2); (try clear hk); (try clear hi); (try clear ho0)))
                    have n0_ := Aside0.mk (Kd.R_drew HO219.out)
                    have n1_ := Aside0.mk (Kd.R_drew HO222.out)
                    have n2_ := Aside0.mk (Kd.R_drew HO229.out)
                    have n3_ := Aside0.mk (below_drew1 HB.out)
                    clear HO219
                    clear HO222
                    clear HO229
                    clear HB
                    have HO219 := n0_
                    have HO222 := n1_
                    have HO229 := n2_
                    have HB := n3_
                    clear n0_ n1_ n2_ n3_
                    obtain ⟨Ao86, co86, eo86⟩ := Kd.R_slice HO229.out
                    (first | subst eo86 | (injection eo86 with f1_ f2_ f3_; have f4_ := f1_.symm; have f5_ := f3_.symm; clear f1_ f2_ f3_; subst f4_; subst f5_))
                    obtain ⟨Ao87, co87, eo87⟩ := Kd.R_slice HO222.out
                    (first | subst eo87 | (injection eo87 with f1_ f2_ f3_; have f4_ := f1_.symm; have f5_ := f3_.symm; clear f1_ f2_ f3_; subst f4_; subst f5_))
                    have p230 : 0 ≤ (t223 : Int) := of_decide_eq_true (by first | (with_reducible assumption) | assumption)
                    have q230 : t223 < (y220.length : Int) := of_decide_eq_true (by first | (with_reducible assumption) | assumption)
                    obtain ⟨ad230, e230, hx230_0⟩ := Kd.at_string (Kd.R_reads' HO222.out).2.2 t223 p230 q230
                    cases e230
                    replace p230 := eq_true p230
                    replace q230 := eq_true q230
                    refine start_ (n := 28) (S := fun w' => w'.cell? (ad230.add (t223).toNat) = some (.string (rdOf ByteArray.empty y220 t223))) (ds := []) #[false, false, false, false, false, false, false, false, false, false, false, false, false, false, false, false, false, false, false, false, false, false, false, false, false, false, false, false] (by kernel_rfl) rfl rfl (hx230_0) (fun hHeld => ?_); refine with_tabW deadboltlaw5_LexKnown.tab8 deadboltlaw5_LexKnown.bits8 (fun HT_ HW_ => ?_)
                    generalize w84.drew = w85 at HO219 HO222 HO229 HB hx230_0 hHeld ⊢
                    refine pure_ (i := 0) (N := some 31) (v := ?_) (a' := ?_) #[true, false, false, false, false, false, false, false, false, false, false, false, false, false, false, false, false, false, false, false, false, false, false, false, false, false, false, false] rfl rfl (any_of HT_.out (by kernel_rfl)) (fun _ _ _ h => h) (Or.inl ⟨by rfl, ?_⟩) ?_ ?_
                    rotate_left
                    · intro w'
                      go_simp
                      with_reducible rfl
                    rotate_left
                    · simp only [Act.put, List.setIfInBounds_toArray, List.set_cons_zero, List.set_cons_succ, i64_w, i32_w]
                      rfl
                    refine pure_ (i := 1) (N := some 32) (v := ?_) (a' := ?_) #[true, true, false, false, false, false, false, false, false, false, false, false, false, false, false, false, false, false, false, false, false, false, false, false, false, false, false, false] rfl rfl (any_of HT_.out (by kernel_rfl)) (fun _ _ _ h => h) (Or.inl ⟨by rfl, ?_⟩) ?_ ?_
                    rotate_left
                    · intro w'
                      go_simp
                      with_reducible rfl
                    rotate_left
                    · simp only [Act.put, List.setIfInBounds_toArray, List.set_cons_zero, List.set_cons_succ, i64_w, i32_w]
                      rfl
                    refine pure_ (i := 2) (N := some 33) (v := ?_) (a' := ?_) #[true, true, true, false, false, false, false, false, false, false, false, false, false, false, false, false, false, false, false, false, false, false, false, false, false, false, false, false] rfl rfl (any_of HT_.out (by kernel_rfl)) (fun _ _ _ h => h) (Or.inl ⟨by rfl, ?_⟩) ?_ ?_
                    rotate_left
                    · intro w'
                      go_simp
                      with_reducible rfl
                    rotate_left
                    · simp only [Act.put, List.setIfInBounds_toArray, List.set_cons_zero, List.set_cons_succ, i64_w, i32_w]
                      rfl
                    refine pure_ (i := 3) (N := some 34) (v := ?_) (a' := ?_) #[true, true, true, true, false, false, false, false, false, false, false, false, false, false, false, false, false, false, false, false, false, false, false, false, false, false, false, false] rfl rfl (any_of HT_.out (by kernel_rfl)) (fun _ _ _ h => h) (Or.inl ⟨by rfl, ?_⟩) ?_ ?_
                    rotate_left
                    · intro w'
                      go_simp
                      with_reducible rfl
                    rotate_left
                    · simp only [Act.put, List.setIfInBounds_toArray, List.set_cons_zero, List.set_cons_succ, i64_w, i32_w]
                      rfl
                    refine pure_ (i := 4) (N := some 35) (v := ?_) (a' := ?_) #[true, true, true, true, true, false, false, false, false, false, false, false, false, false, false, false, false, false, false, false, false, false, false, false, false, false, false, false] rfl rfl (any_of HT_.out (by kernel_rfl)) (fun _ _ _ h => h) (Or.inl ⟨by rfl, ?_⟩) ?_ ?_
                    rotate_left
                    · intro w'
                      go_simp
                      with_reducible rfl
                    rotate_left
                    · simp only [Act.put, List.setIfInBounds_toArray, List.set_cons_zero, List.set_cons_succ, i64_w, i32_w]
                      rfl
                    refine pure_ (i := 5) (N := some 36) (v := ?_) (a' := ?_) #[true, true, true, true, true, true, false, false, false, false, false, false, false, false, false, false, false, false, false, false, false, false, false, false, false, false, false, false] rfl rfl (any_of HT_.out (by kernel_rfl)) (fun _ _ _ h => h) (Or.inl ⟨by rfl, ?_⟩) ?_ ?_
                    rotate_left
                    · intro w'
                      go_simp
                      with_reducible rfl
                    rotate_left
                    · simp only [Act.put, List.setIfInBounds_toArray, List.set_cons_zero, List.set_cons_succ, i64_w, i32_w]
                      rfl
                    refine pure_ (i := 6) (N := some 37) (v := ?_) (a' := ?_) #[true, true, true, true, true, true, true, false, false, false, false, false, false, false, false, false, false, false, false, false, false, false, false, false, false, false, false, false] rfl rfl (any_of HT_.out (by kernel_rfl)) (fun _ _ _ h => h) (Or.inl ⟨by rfl, ?_⟩) ?_ ?_
                    rotate_left
                    · intro w'
                      go_simp
                      with_reducible rfl
                    rotate_left
                    · simp only [Act.put, List.setIfInBounds_toArray, List.set_cons_zero, List.set_cons_succ, i64_w, i32_w]
                      rfl
                    refine pure_ (i := 7) (N := some 38) (v := ?_) (a' := ?_) #[true, true, true, true, true, true, true, true, false, false, false, false, false, false, false, false, false, false, false, false, false, false, false, false, false, false, false, false] rfl rfl (any_of HT_.out (by kernel_rfl)) (fun _ _ _ h => h) (Or.inl ⟨by rfl, ?_⟩) ?_ ?_
                    rotate_left
                    · intro w'
                      go_simp
                      with_reducible rfl
                    rotate_left
                    · simp only [Act.put, List.setIfInBounds_toArray, List.set_cons_zero, List.set_cons_succ, i64_w, i32_w]
                      rfl
                    refine pure_ (i := 8) (N := some 39) (v := ?_) (a' := ?_) #[true, true, true, true, true, true, true, true, true, false, false, false, false, false, false, false, false, false, false, false, false, false, false, false, false, false, false, false] rfl rfl (any_of HT_.out (by kernel_rfl)) (fun _ _ _ h => h) (Or.inl ⟨by rfl, ?_⟩) ?_ ?_
                    rotate_left
                    · intro w'
                      go_simp
                      with_reducible rfl
                    rotate_left
                    · simp only [Act.put, List.setIfInBounds_toArray, List.set_cons_zero, List.set_cons_succ, i64_w, i32_w]
                      rfl
                    refine pure_ (i := 9) (N := some 40) (v := ?_) (a' := ?_) #[true, true, true, true, true, true, true, true, true, true, false, false, false, false, false, false, false, false, false, false, false, false, false, false, false, false, false, false] rfl rfl (any_of HT_.out (by kernel_rfl)) (fun _ _ _ h => h) (Or.inl ⟨by rfl, ?_⟩) ?_ ?_
                    rotate_left
                    · intro w'
                      go_simp
                      with_reducible rfl
                    rotate_left
                    · simp only [Act.put, List.setIfInBounds_toArray, List.set_cons_zero, List.set_cons_succ, i64_w, i32_w]
                      rfl
                    refine pure_ (i := 10) (N := some 41) (v := ?_) (a' := ?_) #[true, true, true, true, true, true, true, true, true, true, true, false, false, false, false, false, false, false, false, false, false, false, false, false, false, false, false, false] rfl rfl (any_of HT_.out (by kernel_rfl)) (fun _ _ _ h => h) (Or.inl ⟨by rfl, ?_⟩) ?_ ?_
                    rotate_left
                    · intro w'
                      go_simp
                      with_reducible rfl
                    rotate_left
                    · simp only [Act.put, List.setIfInBounds_toArray, List.set_cons_zero, List.set_cons_succ, i64_w, i32_w]
                      rfl
                    refine pure_ (i := 12) (N := some 43) (v := ?_) (a' := ?_) #[true, true, true, true, true, true, true, true, true, true, true, false, true, false, false, false, false, false, false, false, false, false, false, false, false, false, false, false] rfl rfl (any_of HT_.out (by kernel_rfl)) (fun _ _ _ h => h) (Or.inl ⟨by rfl, ?_⟩) ?_ ?_
                    rotate_left
                    · intro w'
                      go_simp
                      with_reducible rfl
                    rotate_left
                    · simp only [Act.put, List.setIfInBounds_toArray, List.set_cons_zero, List.set_cons_succ, i64_w, i32_w]
                      rfl
                    refine pure_ (i := 13) (N := some 44) (v := ?_) (a' := ?_) #[true, true, true, true, true, true, true, true, true, true, true, false, true, true, false, false, false, false, false, false, false, false, false, false, false, false, false, false] rfl rfl (any_of HT_.out (by kernel_rfl)) (fun _ _ _ h => h) (Or.inl ⟨by rfl, ?_⟩) ?_ ?_
                    rotate_left
                    · intro w'
                      go_simp
                      with_reducible rfl
                    rotate_left
                    · simp only [Act.put, List.setIfInBounds_toArray, List.set_cons_zero, List.set_cons_succ, i64_w, i32_w]
                      rfl
                    refine pure_ (i := 14) (N := some 45) (v := ?_) (a' := ?_) #[true, true, true, true, true, true, true, true, true, true, true, false, true, true, true, false, false, false, false, false, false, false, false, false, false, false, false, false] rfl rfl (any_of HT_.out (by kernel_rfl)) (fun _ _ _ h => h) (Or.inl ⟨by rfl, ?_⟩) ?_ ?_
                    rotate_left
                    · intro w'
                      go_simp
                      with_reducible rfl
                    rotate_left
                    · simp only [Act.put, List.setIfInBounds_toArray, List.set_cons_zero, List.set_cons_succ, i64_w, i32_w]
                      rfl
                    refine take_ (i := 11) (N := some 42) (v := ?_) (a' := ?_) #[true, true, true, true, true, true, true, true, true, true, true, true, true, true, true, false, false, false, false, false, false, false, false, false, false, false, false, false] rfl rfl (take_ofW HT_.out HW_.out (by kernel_rfl)) (fun _ _ _ h => h) (Or.inl ⟨by rfl, ?_⟩) hHeld ?_ ?_
                    rotate_left
                    · intro w' s0
                      go_simp
                      with_reducible rfl
                    rotate_left
                    · simp only [Act.put, List.setIfInBounds_toArray, List.set_cons_zero, List.set_cons_succ, i64_w, i32_w]
                      rfl
                    refine one_ (i := 15) (N := some 46) #[true, true, true, true, true, true, true, true, true, true, true, true, true, true, true, true, false, false, false, false, false, false, false, false, false, false, false, false] rfl rfl (one_of HT_.out (by kernel_rfl)) (by decide) (fun K hK => ?_)
                    refine Kd.R_lit_step (Kd.int .u8) _ 5 ?hg (N := 46) ?hd (xs := ([(wrap64 (48 + t226)) % 256] : List Int)) (inner := [.int .u8 ((wrap64 (48 + t226)) % 256)]) (ok := fun _ => True) (okp := fun _ => True) ?hr ?hp (fun _ hk => hk) trivial (Below.refl _ _) (Nat.le_refl _) (by simp) ?_; (case hd => rfl); (case hg => rfl); (case hr => first | (go_simp; done) | (go_simp; rfl)); (case hp => exact (Reps.one (show Kd.M (Kd.int .u8) _ _ _ ((wrap64 (48 + t226)) % 256) [.int .u8 ((wrap64 (48 + t226)) % 256)] from rfl) (Reps.none _ _)))
                    intro v232 w88 ho89 hb hg_ hnew_
                    have HS0_ := (hb.cell (World.block_lt_of_cell? _ _ (hHeld))).trans (hHeld)
                    clear hg_ hnew_
                    (first | rw [← Ny231.out] at ho89 | (simp only [Int.reduceToNat] at ho89; rw [← Ny231.out] at ho89))
                    have n0_ := Aside0.mk (Kd.R_below (by (with_reducible repeat (first | apply Kd.R_alloc | apply Kd.R_drewN | apply Kd.R_drew)); exact HO219.out) hb)
                    have n1_ := Aside0.mk (Kd.R_below (by (with_reducible repeat (first | apply Kd.R_alloc | apply Kd.R_drewN | apply Kd.R_drew)); exact HO222.out) hb)
                    have n2_ := Aside0.mk (Kd.R_below (by (with_reducible repeat (first | apply Kd.R_alloc | apply Kd.R_drewN | apply Kd.R_drew)); exact HO229.out) hb)
                    have n3_ := Aside0.mk (Kd.R_lower ho89 (below_size (by repeat (first | (with_reducible first | exact HB.out | apply below_alloc | apply pw_below_drewN | apply below_drew1) | exact HB.out))))
                    have n4_ := Aside0.mk (below_step (by repeat (first | (with_reducible first | exact HB.out | apply below_alloc | apply pw_below_drewN | apply below_drew1) | exact HB.out)) hb)
                    clear HO219
                    clear HO222
                    clear HO229
                    clear HB
                    have HO219 := n0_
                    have HO222 := n1_
                    have HO229 := n2_
                    have HO233 := n3_
                    have HB := n4_
                    clear n0_ n1_ n2_ n3_ n4_
                    clear hb ho89
                    refine hK.out _ _ (HS0_) (fun hHeld => ?_)
                    clear hK K
                    refine norm_ (a' := ?_) ?_ ?_
                    rotate_left
                    · show Act.put _ (some 46) _ = _
                      simp only [Act.put, List.setIfInBounds_toArray, List.set_cons_zero, List.set_cons_succ, i64_w, i32_w]
                      rfl
                    refine one_ (i := 16) (N := some 47) #[true, true, true, true, true, true, true, true, true, true, true, true, true, true, true, true, true, false, false, false, false, false, false, false, false, false, false, false] rfl rfl (one_of HT_.out (by kernel_rfl)) (by decide) (fun K hK => ?_)
                    have hcv90 := own_string (P := Tryd.prog) Tryd.underlying24 Tryd.underlying5 Tryd.underlying9 (Kd.own_of_R HO233.out)
                    refine value_ (w1 := ?_) (v := ?_) (by rfl) rfl ?_ ?_
                    rotate_left 2
                    · go_simp
                      constructor
                      · rfl
                      · rfl
                    clear hcv90
                    refine hK.out _ _ (hHeld) (fun hHeld => ?_)
                    clear hK K
                    refine norm_ (a' := ?_) ?_ ?_
                    rotate_left
                    · show Act.put _ (some 47) _ = _
                      simp only [Act.put, List.setIfInBounds_toArray, List.set_cons_zero, List.set_cons_succ, i64_w, i32_w]
                      rfl
                    refine pure_ (i := 17) (N := some 48) (v := ?_) (a' := ?_) #[true, true, true, true, true, true, true, true, true, true, true, true, true, true, true, true, true, true, false, false, false, false, false, false, false, false, false, false] rfl rfl (any_of HT_.out (by kernel_rfl)) (fun _ _ _ h => h) (Or.inl ⟨by rfl, ?_⟩) ?_ ?_
                    rotate_left
                    · intro w'
                      go_simp
                      with_reducible rfl
                    rotate_left
                    · simp only [Act.put, List.setIfInBounds_toArray, List.set_cons_zero, List.set_cons_succ, i64_w, i32_w]
                      rfl
                    refine pure_ (i := 18) (N := some 49) (v := ?_) (a' := ?_) #[true, true, true, true, true, true, true, true, true, true, true, true, true, true, true, true, true, true, true, false, false, false, false, false, false, false, false, false] rfl rfl (any_of HT_.out (by kernel_rfl)) (fun _ _ _ h => h) (Or.inl ⟨by rfl, ?_⟩) ?_ ?_
                    rotate_left
                    · intro w'
                      go_simp
                      with_reducible rfl
                    rotate_left
                    · simp only [Act.put, List.setIfInBounds_toArray, List.set_cons_zero, List.set_cons_succ, i64_w, i32_w]
                      rfl
                    refine pure_ (i := 19) (N := some 50) (v := ?_) (a' := ?_) #[true, true, true, true, true, true, true, true, true, true, true, true, true, true, true, true, true, true, true, true, false, false, false, false, false, false, false, false] rfl rfl (any_of HT_.out (by kernel_rfl)) (fun _ _ _ h => h) (Or.inl ⟨by rfl, ?_⟩) ?_ ?_
                    rotate_left
                    · intro w'
                      go_simp
                      with_reducible rfl
                    rotate_left
                    · simp only [Act.put, List.setIfInBounds_toArray, List.set_cons_zero, List.set_cons_succ, i64_w, i32_w]
                      rfl
                    refine pure_ (i := 20) (N := some 51) (v := ?_) (a' := ?_) #[true, true, true, true, true, true, true, true, true, true, true, true, true, true, true, true, true, true, true, true, true, false, false, false, false, false, false, false] rfl rfl (any_of HT_.out (by kernel_rfl)) (fun _ _ _ h => h) (Or.inl ⟨by rfl, ?_⟩) ?_ ?_
                    rotate_left
                    · intro w'
                      go_simp
                      with_reducible rfl
                    rotate_left
                    · simp only [Act.put, List.setIfInBounds_toArray, List.set_cons_zero, List.set_cons_succ, i64_w, i32_w]
                      rfl
                    refine pure_ (i := 21) (N := some 52) (v := ?_) (a' := ?_) #[true, true, true, true, true, true, true, true, true, true, true, true, true, true, true, true, true, true, true, true, true, true, false, false, false, false, false, false] rfl rfl (any_of HT_.out (by kernel_rfl)) (fun _ _ _ h => h) (Or.inl ⟨by rfl, ?_⟩) ?_ ?_
                    rotate_left
                    · intro w'
                      go_simp
                      with_reducible rfl
                    rotate_left
                    · simp only [Act.put, List.setIfInBounds_toArray, List.set_cons_zero, List.set_cons_succ, i64_w, i32_w]
                      rfl
                    refine pure_ (i := 22) (N := some 53) (v := undef) (a' := ?_) #[true, true, true, true, true, true, true, true, true, true, true, true, true, true, true, true, true, true, true, true, true, true, true, false, false, false, false, false] rfl rfl (any_of HT_.out (by kernel_rfl)) (fun _ _ _ h => h) (Or.inr ⟨by rfl, rfl⟩) ?_ ?_
                    rotate_left
                    · simp only [Act.put, List.setIfInBounds_toArray, List.set_cons_zero, List.set_cons_succ, i64_w, i32_w]
                      rfl
                    refine pure_ (i := 23) (N := some 54) (v := undef) (a' := ?_) #[true, true, true, true, true, true, true, true, true, true, true, true, true, true, true, true, true, true, true, true, true, true, true, true, false, false, false, false] rfl rfl (any_of HT_.out (by kernel_rfl)) (fun _ _ _ h => h) (Or.inr ⟨by rfl, rfl⟩) ?_ ?_
                    rotate_left
                    · simp only [Act.put, List.setIfInBounds_toArray, List.set_cons_zero, List.set_cons_succ, i64_w, i32_w]
                      rfl
                    refine pure_ (i := 24) (N := some 55) (v := ?_) (a' := ?_) #[true, true, true, true, true, true, true, true, true, true, true, true, true, true, true, true, true, true, true, true, true, true, true, true, true, false, false, false] rfl rfl (any_of HT_.out (by kernel_rfl)) (fun _ _ _ h => h) (Or.inl ⟨by rfl, ?_⟩) ?_ ?_
                    rotate_left
                    · intro w'
                      go_simp
                      with_reducible rfl
                    rotate_left
                    · simp only [Act.put, List.setIfInBounds_toArray, List.set_cons_zero, List.set_cons_succ, i64_w, i32_w]
                      rfl
                    refine pure_ (i := 25) (N := some 56) (v := ?_) (a' := ?_) #[true, true, true, true, true, true, true, true, true, true, true, true, true, true, true, true, true, true, true, true, true, true, true, true, true, true, false, false] rfl rfl (any_of HT_.out (by kernel_rfl)) (fun _ _ _ h => h) (Or.inl ⟨by rfl, ?_⟩) ?_ ?_
                    rotate_left
                    · intro w'
                      go_simp
                      with_reducible rfl
                    rotate_left
                    · simp only [Act.put, List.setIfInBounds_toArray, List.set_cons_zero, List.set_cons_succ, i64_w, i32_w]
                      rfl
                    refine pure_ (i := 26) (N := some 57) (v := ?_) (a' := ?_) #[true, true, true, true, true, true, true, true, true, true, true, true, true, true, true, true, true, true, true, true, true, true, true, true, true, true, true, false] rfl rfl (any_of HT_.out (by kernel_rfl)) (fun _ _ _ h => h) (Or.inl ⟨by rfl, ?_⟩) ?_ ?_
                    rotate_left
                    · intro w'
                      go_simp
                      with_reducible rfl
                    rotate_left
                    · simp only [Act.put, List.setIfInBounds_toArray, List.set_cons_zero, List.set_cons_succ, i64_w, i32_w]
                      rfl
                    refine pure_ (i := 27) (N := some 2) (v := ?_) (a' := ?_) #[true, true, true, true, true, true, true, true, true, true, true, true, true, true, true, true, true, true, true, true, true, true, true, true, true, true, true, true] rfl rfl (any_of HT_.out (by kernel_rfl)) (fun _ _ _ h => h) (Or.inl ⟨by rfl, ?_⟩) ?_ ?_
                    rotate_left
                    · intro w'
                      go_simp
                      with_reducible rfl
                    rotate_left
                    · simp only [Act.put, List.setIfInBounds_toArray, List.set_cons_zero, List.set_cons_succ, i64_w, i32_w]
                      rfl
                    refine done_ (done_of HT_.out (by kernel_rfl)) ?_
                    try go_wp2
                    go_ret
                    exact ⟨by first | rfl | (simp [errW_none, errW_some] <;> rfl) | (simp [*, errW_none, errW_some] <;> rfl), by repeat (first | (with_reducible first | exact HB.out | apply below_alloc | apply pw_below_drewN | apply below_drew1) | exact HB.out)⟩
              · rw [if_neg c49] at H
                exact absurd H (by simp)
            · rw [if_neg c48] at H
              have c48b0 : ((t225.length : Int) == 0) = false := beq_eq_false_iff_ne.mpr c48
              have c48b1 : ((t225.length : Int) != 0) = true := bne_iff_ne.mpr c48
              have c48b2 : ¬ (t225 = []) := fun h_ => c48 (by rw [h_]; rfl)
              obtain rfl := Option.some.inj H
              go_enter Tryd.func6, Tryd.ntmps6
              try go_wp2_with (first | ((with_reducible refine gate_callee (f := 9) rfl ?_); refine goesL_ (some 12) rfl rfl Tryd.func9 (by kernel_rfl) rfl #[] rfl (by (try simp only [List.map_toArray, List.map_cons, List.map_nil]); first | done | rfl | (simp only [List.length_drop, List.length_take]; rfl)) ?_; (with_reducible refine (deadboltlaw5_known.calls  true _ A2.out (by first | exact HG.out | exact GL.drewN HG.out _ | exact GL.drewN (GL.drewN HG.out _) _ | exact GL.of_below HG.out (by repeat (first | (with_reducible first | exact HB.out | apply below_alloc | apply pw_below_drewN | apply below_drew1) | exact HB.out)))).mono ?_); rintro e w91 ⟨rfl, hb⟩; refine ⟨_, rfl, ?_⟩; have n0_ := Aside0.mk (below_step (by repeat (first | (with_reducible first | exact HB.out | apply below_alloc | apply pw_below_drewN | apply below_drew1) | exact HB.out)) hb); clear HB; have HB := n0_; clear n0_; (try clear hb); (try clear hb2); (try clear hk); (try clear hi)) | ((with_reducible refine gate_dst (N := 14) rfl ?_); (try (refine gate_guard (by rfl) ?_; dsimp only)); refine Kd.R_lit Kd.string _ 9 ?hg (N := 14) ?hd (xs := ([(⟨#[]⟩ : ByteArray), (⟨#[32, 9, 10, 32]⟩ : ByteArray), (⟨#[97, 123, 98, 125]⟩ : ByteArray), (⟨#[120, 57, 32, 57]⟩ : ByteArray), (⟨#[117, 115, 101, 32, 117, 115, 101, 120]⟩ : ByteArray), (⟨#[123, 32, 123]⟩ : ByteArray), (⟨#[65]⟩ : ByteArray), (⟨#[97, 45, 98]⟩ : ByteArray), (⟨#[97, 13]⟩ : ByteArray), (⟨#[97, 98, 0]⟩ : ByteArray), (⟨#[97, 95, 98]⟩ : ByteArray)] : List ByteArray)) (inner := [.string (⟨#[]⟩ : ByteArray), .string (⟨#[32, 9, 10, 32]⟩ : ByteArray), .string (⟨#[97, 123, 98, 125]⟩ : ByteArray), .string (⟨#[120, 57, 32, 57]⟩ : ByteArray), .string (⟨#[117, 115, 101, 32, 117, 115, 101, 120]⟩ : ByteArray), .string (⟨#[123, 32, 123]⟩ : ByteArray), .string (⟨#[65]⟩ : ByteArray), .string (⟨#[97, 45, 98]⟩ : ByteArray), .string (⟨#[97, 13]⟩ : ByteArray), .string (⟨#[97, 98, 0]⟩ : ByteArray), .string (⟨#[97, 95, 98]⟩ : ByteArray)]) (ok := fun _ => True) (okp := fun _ => True) ?hr ?hp (fun _ hk => hk) trivial (Below.refl _ _) (Nat.le_refl _) (by simp) ?_; (case hd => rfl); (case hg => rfl); (case hr => first | (go_simp; done) | (go_simp; rfl)); (case hp => exact (Reps.one (show Kd.M Kd.string _ _ _ (⟨#[]⟩ : ByteArray) [.string (⟨#[]⟩ : ByteArray)] from rfl) (Reps.one (show Kd.M Kd.string _ _ _ (⟨#[32, 9, 10, 32]⟩ : ByteArray) [.string (⟨#[32, 9, 10, 32]⟩ : ByteArray)] from rfl) (Reps.one (show Kd.M Kd.string _ _ _ (⟨#[97, 123, 98, 125]⟩ : ByteArray) [.string (⟨#[97, 123, 98, 125]⟩ : ByteArray)] from rfl) (Reps.one (show Kd.M Kd.string _ _ _ (⟨#[120, 57, 32, 57]⟩ : ByteArray) [.string (⟨#[120, 57, 32, 57]⟩ : ByteArray)] from rfl) (Reps.one (show Kd.M Kd.string _ _ _ (⟨#[117, 115, 101, 32, 117, 115, 101, 120]⟩ : ByteArray) [.string (⟨#[117, 115, 101, 32, 117, 115, 101, 120]⟩ : ByteArray)] from rfl) (Reps.one (show Kd.M Kd.string _ _ _ (⟨#[123, 32, 123]⟩ : ByteArray) [.string (⟨#[123, 32, 123]⟩ : ByteArray)] from rfl) (Reps.one (show Kd.M Kd.string _ _ _ (⟨#[65]⟩ : ByteArray) [.string (⟨#[65]⟩ : ByteArray)] from rfl) (Reps.one (show Kd.M Kd.string _ _ _ (⟨#[97, 45, 98]⟩ : ByteArray) [.string (⟨#[97, 45, 98]⟩ : ByteArray)] from rfl) (Reps.one (show Kd.M Kd.string _ _ _ (⟨#[97, 13]⟩ : ByteArray) [.string (⟨#[97, 13]⟩ : ByteArray)] from rfl) (Reps.one (show Kd.M Kd.string _ _ _ (⟨#[97, 98, 0]⟩ : ByteArray) [.string (⟨#[97, 98, 0]⟩ : ByteArray)] from rfl) (Reps.one (show Kd.M Kd.string _ _ _ (⟨#[97, 95, 98]⟩ : ByteArray) [.string (⟨#[97, 95, 98]⟩ : ByteArray)] from rfl) (Reps.none _ _))))))))))))); intro v218 w92 ho93 hb hg_ hnew_; clear hg_ hnew_; (first | rw [← Ny217.out] at ho93 | (simp only [Int.reduceToNat] at ho93; rw [← Ny217.out] at ho93)); have n0_ := Aside0.mk (Kd.R_lower ho93 (below_size (by repeat (first | (with_reducible first | exact HB.out | apply below_alloc | apply pw_below_drewN | apply below_drew1) | exact HB.out)))); have n1_ := Aside0.mk (below_step (by repeat (first | (with_reducible first | exact HB.out | apply below_alloc | apply pw_below_drewN | apply below_drew1) | exact HB.out)) hb); clear HB; have HO219 := n0_; have HB := n1_; clear n0_ n1_; clear hb ho93) | ((with_reducible refine gate_dst (N := 15) rfl ?_); (try (refine gate_guard (by rfl) ?_; dsimp only)); refine Kd.R_lit Kd.string _ 9 ?hg (N := 15) ?hd (xs := ([(⟨#[]⟩ : ByteArray), (⟨#[]⟩ : ByteArray), (⟨#[97, 64, 48, 32, 123, 64, 49, 32, 98, 64, 50, 32, 125, 64, 51, 32]⟩ : ByteArray), (⟨#[57]⟩ : ByteArray), (⟨#[117, 115, 101, 64, 48, 32, 117, 115, 101, 120, 64, 52, 32]⟩ : ByteArray), (⟨#[123, 64, 48, 32, 123, 64, 50, 32]⟩ : ByteArray), (⟨#[48]⟩ : ByteArray), (⟨#[49]⟩ : ByteArray), (⟨#[49]⟩ : ByteArray), (⟨#[50]⟩ : ByteArray), (⟨#[49]⟩ : ByteArray)] : List ByteArray)) (inner := [.string (⟨#[]⟩ : ByteArray), .string (⟨#[]⟩ : ByteArray), .string (⟨#[97, 64, 48, 32, 123, 64, 49, 32, 98, 64, 50, 32, 125, 64, 51, 32]⟩ : ByteArray), .string (⟨#[57]⟩ : ByteArray), .string (⟨#[117, 115, 101, 64, 48, 32, 117, 115, 101, 120, 64, 52, 32]⟩ : ByteArray), .string (⟨#[123, 64, 48, 32, 123, 64, 50, 32]⟩ : ByteArray), .string (⟨#[48]⟩ : ByteArray), .string (⟨#[49]⟩ : ByteArray), .string (⟨#[49]⟩ : ByteArray), .string (⟨#[50]⟩ : ByteArray), .string (⟨#[49]⟩ : ByteArray)]) (ok := fun _ => True) (okp := fun _ => True) ?hr ?hp (fun _ hk => hk) trivial (Below.refl _ _) (Nat.le_refl _) (by simp) ?_; (case hd => rfl); (case hg => rfl); (case hr => first | (go_simp; done) | (go_simp; rfl)); (case hp => exact (Reps.one (show Kd.M Kd.string _ _ _ (⟨#[]⟩ : ByteArray) [.string (⟨#[]⟩ : ByteArray)] from rfl) (Reps.one (show Kd.M Kd.string _ _ _ (⟨#[]⟩ : ByteArray) [.string (⟨#[]⟩ : ByteArray)] from rfl) (Reps.one (show Kd.M Kd.string _ _ _ (⟨#[97, 64, 48, 32, 123, 64, 49, 32, 98, 64, 50, 32, 125, 64, 51, 32]⟩ : ByteArray) [.string (⟨#[97, 64, 48, 32, 123, 64, 49, 32, 98, 64, 50, 32, 125, 64, 51, 32]⟩ : ByteArray)] from rfl) (Reps.one (show Kd.M Kd.string _ _ _ (⟨#[57]⟩ : ByteArray) [.string (⟨#[57]⟩ : ByteArray)] from rfl) (Reps.one (show Kd.M Kd.string _ _ _ (⟨#[117, 115, 101, 64, 48, 32, 117, 115, 101, 120, 64, 52, 32]⟩ : ByteArray) [.string (⟨#[117, 115, 101, 64, 48, 32, 117, 115, 101, 120, 64, 52, 32]⟩ : ByteArray)] from rfl) (Reps.one (show Kd.M Kd.string _ _ _ (⟨#[123, 64, 48, 32, 123, 64, 50, 32]⟩ : ByteArray) [.string (⟨#[123, 64, 48, 32, 123, 64, 50, 32]⟩ : ByteArray)] from rfl) (Reps.one (show Kd.M Kd.string _ _ _ (⟨#[48]⟩ : ByteArray) [.string (⟨#[48]⟩ : ByteArray)] from rfl) (Reps.one (show Kd.M Kd.string _ _ _ (⟨#[49]⟩ : ByteArray) [.string (⟨#[49]⟩ : ByteArray)] from rfl) (Reps.one (show Kd.M Kd.string _ _ _ (⟨#[49]⟩ : ByteArray) [.string (⟨#[49]⟩ : ByteArray)] from rfl) (Reps.one (show Kd.M Kd.string _ _ _ (⟨#[50]⟩ : ByteArray) [.string (⟨#[50]⟩ : ByteArray)] from rfl) (Reps.one (show Kd.M Kd.string _ _ _ (⟨#[49]⟩ : ByteArray) [.string (⟨#[49]⟩ : ByteArray)] from rfl) (Reps.none _ _))))))))))))); intro v221 w94 ho95 hb hg_ hnew_; clear hg_ hnew_; (first | rw [← Ny220.out] at ho95 | (simp only [Int.reduceToNat] at ho95; rw [← Ny220.out] at ho95)); have n0_ := Aside0.mk (Kd.R_elder' (by (with_reducible repeat (first | apply Kd.R_alloc | apply Kd.R_drewN | apply Kd.R_drew)); exact HO219.out) (Kd.R_base ho95) hb); have n1_ := Aside0.mk (Kd.R_lower (Kd.R_new' ho95 (Kd.R_lt (by (with_reducible repeat (first | apply Kd.R_alloc | apply Kd.R_drewN | apply Kd.R_drew)); exact HO219.out))) (below_size (by repeat (first | (with_reducible first | exact HB.out | apply below_alloc | apply pw_below_drewN | apply below_drew1) | exact HB.out)))); have n2_ := Aside0.mk (below_step (by repeat (first | (with_reducible first | exact HB.out | apply below_alloc | apply pw_below_drewN | apply below_drew1) | exact HB.out)) hb); clear HO219; clear HB; have HO219 := n0_; have HO222 := n1_; have HB := n2_; clear n0_ n1_ n2_; clear hb ho95; obtain ⟨Ao96, co96, eo96⟩ := Kd.R_slice HO219.out; subst eo96) | ((with_reducible refine gate_callee (f := 10) rfl ?_); refine goesL_ (some 19) rfl rfl Tryd.func10 (by kernel_rfl) rfl #[.int .i64 a0, .int .i64 (y217.length : Int)] rfl (by (try simp only [List.map_toArray, List.map_cons, List.map_nil]); first | done | rfl | (simp only [List.length_drop, List.length_take]; rfl)) ?_; (with_reducible refine (deadboltlaw5_within.calls a0 (y217.length : Int) t223 _ A4.out).mono ?_); rintro e w' ⟨rfl, ⟨nd, rfl⟩⟩; refine ⟨_, rfl, ?_⟩; have p224 : 0 ≤ (t223 : Int) := of_decide_eq_true (by first | (with_reducible assumption) | assumption); have q224 : t223 < (y217.length : Int) := of_decide_eq_true (by first | (with_reducible assumption) | assumption); obtain ⟨ad224, e224, hx224_0⟩ := Kd.at_string (Kd.R_reads' HO219.out).2.2 t223 p224 q224; cases e224; replace p224 := eq_true p224; replace q224 := eq_true q224) | ((with_reducible refine gate_callee (f := 12) rfl ?_); refine goesL_ (some 25) rfl rfl Tryd.func12 (by kernel_rfl) rfl #[.string (rdOf ByteArray.empty y217 t223)] rfl (by (try simp only [List.map_toArray, List.map_cons, List.map_nil]); first | done | rfl | (simp only [List.length_drop, List.length_take]; rfl)) ?_; (with_reducible refine (lex_Tokens.calls (rdOf ByteArray.empty y217 t223) t225 t226 t227 _ A7.out).mono ?_); rintro e w97 ⟨v228, rfl, ho0, hb⟩; refine ⟨_, rfl, ?_⟩; have n0_ := Aside0.mk (Kd.R_below (by (with_reducible repeat (first | apply Kd.R_alloc | apply Kd.R_drewN | apply Kd.R_drew)); exact HO219.out) hb); have n1_ := Aside0.mk (Kd.R_below (by (with_reducible repeat (first | apply Kd.R_alloc | apply Kd.R_drewN | apply Kd.R_drew)); exact HO222.out) hb); have n2_ := Aside0.mk (Kd.R_lower ho0 (below_size (by repeat (first | (with_reducible first | exact HB.out | apply below_alloc | apply pw_below_drewN | apply below_drew1) | exact HB.out)))); have n3_ := Aside0.mk (below_step (by repeat (first | (with_reducible first | exact HB.out | apply below_alloc | apply pw_below_drewN | apply below_drew1) | exact HB.out)) hb); clear HO219; clear HO222; clear HB; have HO219 := n0_; have HO222 := n1_; have HO229 := n2_; have HB := n3_; clear n0_ n1_ n2_ n3_; (try clear hb); (try clear hb2); (try clear hk); (try clear hi); (try clear ho0)))
              have n0_ := Aside0.mk (Kd.R_drew HO219.out)
              have n1_ := Aside0.mk (Kd.R_drew HO222.out)
              have n2_ := Aside0.mk (Kd.R_drew HO229.out)
              have n3_ := Aside0.mk (below_drew1 HB.out)
              clear HO219
              clear HO222
              clear HO229
              clear HB
              have HO219 := n0_
              have HO222 := n1_
              have HO229 := n2_
              have HB := n3_
              clear n0_ n1_ n2_ n3_
              obtain ⟨Ao99, co99, eo99⟩ := Kd.R_slice HO229.out
              (first | subst eo99 | (injection eo99 with f1_ f2_ f3_; have f4_ := f1_.symm; have f5_ := f3_.symm; clear f1_ f2_ f3_; subst f4_; subst f5_))
              refine start_ (n := 28) (S := fun w' => True) (ds := []) #[false, false, false, false, false, false, false, false, false, false, false, false, false, false, false, false, false, false, false, false, false, false, false, false, false, false, false, false] (by kernel_rfl) rfl rfl trivial (fun hHeld => ?_); refine with_tabW deadboltlaw5_LexKnown.tab8 deadboltlaw5_LexKnown.bits8 (fun HT_ HW_ => ?_)
              generalize w97.drew = w98 at HO219 HO222 HO229 HB hHeld ⊢
              refine pure_ (i := 0) (N := some 31) (v := ?_) (a' := ?_) #[true, false, false, false, false, false, false, false, false, false, false, false, false, false, false, false, false, false, false, false, false, false, false, false, false, false, false, false] rfl rfl (any_of HT_.out (by kernel_rfl)) (fun _ _ _ h => h) (Or.inl ⟨by rfl, ?_⟩) ?_ ?_
              rotate_left
              · intro w'
                go_simp
                with_reducible rfl
              rotate_left
              · simp only [Act.put, List.setIfInBounds_toArray, List.set_cons_zero, List.set_cons_succ, i64_w, i32_w]
                rfl
              refine pure_ (i := 1) (N := some 32) (v := ?_) (a' := ?_) #[true, true, false, false, false, false, false, false, false, false, false, false, false, false, false, false, false, false, false, false, false, false, false, false, false, false, false, false] rfl rfl (any_of HT_.out (by kernel_rfl)) (fun _ _ _ h => h) (Or.inl ⟨by rfl, ?_⟩) ?_ ?_
              rotate_left
              · intro w'
                go_simp
                with_reducible rfl
              rotate_left
              · simp only [Act.put, List.setIfInBounds_toArray, List.set_cons_zero, List.set_cons_succ, i64_w, i32_w]
                rfl
              refine pure_ (i := 2) (N := some 33) (v := ?_) (a' := ?_) #[true, true, true, false, false, false, false, false, false, false, false, false, false, false, false, false, false, false, false, false, false, false, false, false, false, false, false, false] rfl rfl (any_of HT_.out (by kernel_rfl)) (fun _ _ _ h => h) (Or.inl ⟨by rfl, ?_⟩) ?_ ?_
              rotate_left
              · intro w'
                go_simp
                with_reducible rfl
              rotate_left
              · simp only [Act.put, List.setIfInBounds_toArray, List.set_cons_zero, List.set_cons_succ, i64_w, i32_w]
                rfl
              refine pure_ (i := 3) (N := some 34) (v := ?_) (a' := ?_) #[true, true, true, true, false, false, false, false, false, false, false, false, false, false, false, false, false, false, false, false, false, false, false, false, false, false, false, false] rfl rfl (any_of HT_.out (by kernel_rfl)) (fun _ _ _ h => h) (Or.inl ⟨by rfl, ?_⟩) ?_ ?_
              rotate_left
              · intro w'
                go_simp
                with_reducible rfl
              rotate_left
              · simp only [Act.put, List.setIfInBounds_toArray, List.set_cons_zero, List.set_cons_succ, i64_w, i32_w]
                rfl
              refine pure_ (i := 4) (N := some 35) (v := ?_) (a' := ?_) #[true, true, true, true, true, false, false, false, false, false, false, false, false, false, false, false, false, false, false, false, false, false, false, false, false, false, false, false] rfl rfl (any_of HT_.out (by kernel_rfl)) (fun _ _ _ h => h) (Or.inl ⟨by rfl, ?_⟩) ?_ ?_
              rotate_left
              · intro w'
                go_simp
                with_reducible rfl
              rotate_left
              · simp only [Act.put, List.setIfInBounds_toArray, List.set_cons_zero, List.set_cons_succ, i64_w, i32_w]
                rfl
              refine pure_ (i := 5) (N := some 36) (v := ?_) (a' := ?_) #[true, true, true, true, true, true, false, false, false, false, false, false, false, false, false, false, false, false, false, false, false, false, false, false, false, false, false, false] rfl rfl (any_of HT_.out (by kernel_rfl)) (fun _ _ _ h => h) (Or.inl ⟨by rfl, ?_⟩) ?_ ?_
              rotate_left
              · intro w'
                go_simp
                with_reducible rfl
              rotate_left
              · simp only [Act.put, List.setIfInBounds_toArray, List.set_cons_zero, List.set_cons_succ, i64_w, i32_w]
                rfl
              refine pure_ (i := 6) (N := some 37) (v := ?_) (a' := ?_) #[true, true, true, true, true, true, true, false, false, false, false, false, false, false, false, false, false, false, false, false, false, false, false, false, false, false, false, false] rfl rfl (any_of HT_.out (by kernel_rfl)) (fun _ _ _ h => h) (Or.inl ⟨by rfl, ?_⟩) ?_ ?_
              rotate_left
              · intro w'
                go_simp
                with_reducible rfl
              rotate_left
              · simp only [Act.put, List.setIfInBounds_toArray, List.set_cons_zero, List.set_cons_succ, i64_w, i32_w]
                rfl
              refine pure_ (i := 7) (N := some 38) (v := ?_) (a' := ?_) #[true, true, true, true, true, true, true, true, false, false, false, false, false, false, false, false, false, false, false, false, false, false, false, false, false, false, false, false] rfl rfl (any_of HT_.out (by kernel_rfl)) (fun _ _ _ h => h) (Or.inl ⟨by rfl, ?_⟩) ?_ ?_
              rotate_left
              · intro w'
                go_simp
                with_reducible rfl
              rotate_left
              · simp only [Act.put, List.setIfInBounds_toArray, List.set_cons_zero, List.set_cons_succ, i64_w, i32_w]
                rfl
              refine pure_ (i := 8) (N := some 39) (v := undef) (a' := ?_) #[true, true, true, true, true, true, true, true, true, false, false, false, false, false, false, false, false, false, false, false, false, false, false, false, false, false, false, false] rfl rfl (any_of HT_.out (by kernel_rfl)) (fun _ _ _ h => h) (Or.inr ⟨by rfl, rfl⟩) ?_ ?_
              rotate_left
              · simp only [Act.put, List.setIfInBounds_toArray, List.set_cons_zero, List.set_cons_succ, i64_w, i32_w]
                rfl
              refine pure_ (i := 9) (N := some 40) (v := undef) (a' := ?_) #[true, true, true, true, true, true, true, true, true, true, false, false, false, false, false, false, false, false, false, false, false, false, false, false, false, false, false, false] rfl rfl (any_of HT_.out (by kernel_rfl)) (fun _ _ _ h => h) (Or.inr ⟨by rfl, rfl⟩) ?_ ?_
              rotate_left
              · simp only [Act.put, List.setIfInBounds_toArray, List.set_cons_zero, List.set_cons_succ, i64_w, i32_w]
                rfl
              refine pure_ (i := 10) (N := some 41) (v := undef) (a' := ?_) #[true, true, true, true, true, true, true, true, true, true, true, false, false, false, false, false, false, false, false, false, false, false, false, false, false, false, false, false] rfl rfl (any_of HT_.out (by kernel_rfl)) (fun _ _ _ h => h) (Or.inr ⟨by rfl, rfl⟩) ?_ ?_
              rotate_left
              · simp only [Act.put, List.setIfInBounds_toArray, List.set_cons_zero, List.set_cons_succ, i64_w, i32_w]
                rfl
              refine pure_ (i := 11) (N := some 42) (v := undef) (a' := ?_) #[true, true, true, true, true, true, true, true, true, true, true, true, false, false, false, false, false, false, false, false, false, false, false, false, false, false, false, false] rfl rfl (any_of HT_.out (by kernel_rfl)) (fun _ _ _ h => h) (Or.inr ⟨by rfl, rfl⟩) ?_ ?_
              rotate_left
              · simp only [Act.put, List.setIfInBounds_toArray, List.set_cons_zero, List.set_cons_succ, i64_w, i32_w]
                rfl
              refine pure_ (i := 12) (N := some 43) (v := undef) (a' := ?_) #[true, true, true, true, true, true, true, true, true, true, true, true, true, false, false, false, false, false, false, false, false, false, false, false, false, false, false, false] rfl rfl (any_of HT_.out (by kernel_rfl)) (fun _ _ _ h => h) (Or.inr ⟨by rfl, rfl⟩) ?_ ?_
              rotate_left
              · simp only [Act.put, List.setIfInBounds_toArray, List.set_cons_zero, List.set_cons_succ, i64_w, i32_w]
                rfl
              refine pure_ (i := 13) (N := some 44) (v := undef) (a' := ?_) #[true, true, true, true, true, true, true, true, true, true, true, true, true, true, false, false, false, false, false, false, false, false, false, false, false, false, false, false] rfl rfl (any_of HT_.out (by kernel_rfl)) (fun _ _ _ h => h) (Or.inr ⟨by rfl, rfl⟩) ?_ ?_
              rotate_left
              · simp only [Act.put, List.setIfInBounds_toArray, List.set_cons_zero, List.set_cons_succ, i64_w, i32_w]
                rfl
              refine pure_ (i := 14) (N := some 45) (v := undef) (a' := ?_) #[true, true, true, true, true, true, true, true, true, true, true, true, true, true, true, false, false, false, false, false, false, false, false, false, false, false, false, false] rfl rfl (any_of HT_.out (by kernel_rfl)) (fun _ _ _ h => h) (Or.inr ⟨by rfl, rfl⟩) ?_ ?_
              rotate_left
              · simp only [Act.put, List.setIfInBounds_toArray, List.set_cons_zero, List.set_cons_succ, i64_w, i32_w]
                rfl
              refine pure_ (i := 15) (N := some 46) (v := undef) (a' := ?_) #[true, true, true, true, true, true, true, true, true, true, true, true, true, true, true, true, false, false, false, false, false, false, false, false, false, false, false, false] rfl rfl (any_of HT_.out (by kernel_rfl)) (fun _ _ _ h => h) (Or.inr ⟨by rfl, rfl⟩) ?_ ?_
              rotate_left
              · simp only [Act.put, List.setIfInBounds_toArray, List.set_cons_zero, List.set_cons_succ, i64_w, i32_w]
                rfl
              refine pure_ (i := 16) (N := some 47) (v := undef) (a' := ?_) #[true, true, true, true, true, true, true, true, true, true, true, true, true, true, true, true, true, false, false, false, false, false, false, false, false, false, false, false] rfl rfl (any_of HT_.out (by kernel_rfl)) (fun _ _ _ h => h) (Or.inr ⟨by rfl, rfl⟩) ?_ ?_
              rotate_left
              · simp only [Act.put, List.setIfInBounds_toArray, List.set_cons_zero, List.set_cons_succ, i64_w, i32_w]
                rfl
              refine pure_ (i := 17) (N := some 48) (v := undef) (a' := ?_) #[true, true, true, true, true, true, true, true, true, true, true, true, true, true, true, true, true, true, false, false, false, false, false, false, false, false, false, false] rfl rfl (any_of HT_.out (by kernel_rfl)) (fun _ _ _ h => h) (Or.inr ⟨by rfl, rfl⟩) ?_ ?_
              rotate_left
              · simp only [Act.put, List.setIfInBounds_toArray, List.set_cons_zero, List.set_cons_succ, i64_w, i32_w]
                rfl
              refine pure_ (i := 18) (N := some 49) (v := undef) (a' := ?_) #[true, true, true, true, true, true, true, true, true, true, true, true, true, true, true, true, true, true, true, false, false, false, false, false, false, false, false, false] rfl rfl (any_of HT_.out (by kernel_rfl)) (fun _ _ _ h => h) (Or.inr ⟨by rfl, rfl⟩) ?_ ?_
              rotate_left
              · simp only [Act.put, List.setIfInBounds_toArray, List.set_cons_zero, List.set_cons_succ, i64_w, i32_w]
                rfl
              refine pure_ (i := 19) (N := some 50) (v := undef) (a' := ?_) #[true, true, true, true, true, true, true, true, true, true, true, true, true, true, true, true, true, true, true, true, false, false, false, false, false, false, false, false] rfl rfl (any_of HT_.out (by kernel_rfl)) (fun _ _ _ h => h) (Or.inr ⟨by rfl, rfl⟩) ?_ ?_
              rotate_left
              · simp only [Act.put, List.setIfInBounds_toArray, List.set_cons_zero, List.set_cons_succ, i64_w, i32_w]
                rfl
              refine pure_ (i := 20) (N := some 51) (v := undef) (a' := ?_) #[true, true, true, true, true, true, true, true, true, true, true, true, true, true, true, true, true, true, true, true, true, false, false, false, false, false, false, false] rfl rfl (any_of HT_.out (by kernel_rfl)) (fun _ _ _ h => h) (Or.inr ⟨by rfl, rfl⟩) ?_ ?_
              rotate_left
              · simp only [Act.put, List.setIfInBounds_toArray, List.set_cons_zero, List.set_cons_succ, i64_w, i32_w]
                rfl
              refine pure_ (i := 21) (N := some 52) (v := undef) (a' := ?_) #[true, true, true, true, true, true, true, true, true, true, true, true, true, true, true, true, true, true, true, true, true, true, false, false, false, false, false, false] rfl rfl (any_of HT_.out (by kernel_rfl)) (fun _ _ _ h => h) (Or.inr ⟨by rfl, rfl⟩) ?_ ?_
              rotate_left
              · simp only [Act.put, List.setIfInBounds_toArray, List.set_cons_zero, List.set_cons_succ, i64_w, i32_w]
                rfl
              refine pure_ (i := 22) (N := some 53) (v := undef) (a' := ?_) #[true, true, true, true, true, true, true, true, true, true, true, true, true, true, true, true, true, true, true, true, true, true, true, false, false, false, false, false] rfl rfl (any_of HT_.out (by kernel_rfl)) (fun _ _ _ h => h) (Or.inr ⟨by rfl, rfl⟩) ?_ ?_
              rotate_left
              · simp only [Act.put, List.setIfInBounds_toArray, List.set_cons_zero, List.set_cons_succ, i64_w, i32_w]
                rfl
              refine pure_ (i := 23) (N := some 54) (v := undef) (a' := ?_) #[true, true, true, true, true, true, true, true, true, true, true, true, true, true, true, true, true, true, true, true, true, true, true, true, false, false, false, false] rfl rfl (any_of HT_.out (by kernel_rfl)) (fun _ _ _ h => h) (Or.inr ⟨by rfl, rfl⟩) ?_ ?_
              rotate_left
              · simp only [Act.put, List.setIfInBounds_toArray, List.set_cons_zero, List.set_cons_succ, i64_w, i32_w]
                rfl
              refine pure_ (i := 24) (N := some 55) (v := undef) (a' := ?_) #[true, true, true, true, true, true, true, true, true, true, true, true, true, true, true, true, true, true, true, true, true, true, true, true, true, false, false, false] rfl rfl (any_of HT_.out (by kernel_rfl)) (fun _ _ _ h => h) (Or.inr ⟨by rfl, rfl⟩) ?_ ?_
              rotate_left
              · simp only [Act.put, List.setIfInBounds_toArray, List.set_cons_zero, List.set_cons_succ, i64_w, i32_w]
                rfl
              refine pure_ (i := 25) (N := some 56) (v := undef) (a' := ?_) #[true, true, true, true, true, true, true, true, true, true, true, true, true, true, true, true, true, true, true, true, true, true, true, true, true, true, false, false] rfl rfl (any_of HT_.out (by kernel_rfl)) (fun _ _ _ h => h) (Or.inr ⟨by rfl, rfl⟩) ?_ ?_
              rotate_left
              · simp only [Act.put, List.setIfInBounds_toArray, List.set_cons_zero, List.set_cons_succ, i64_w, i32_w]
                rfl
              refine pure_ (i := 26) (N := some 57) (v := ?_) (a' := ?_) #[true, true, true, true, true, true, true, true, true, true, true, true, true, true, true, true, true, true, true, true, true, true, true, true, true, true, true, false] rfl rfl (any_of HT_.out (by kernel_rfl)) (fun _ _ _ h => h) (Or.inl ⟨by rfl, ?_⟩) ?_ ?_
              rotate_left
              · intro w'
                go_simp
                with_reducible rfl
              rotate_left
              · simp only [Act.put, List.setIfInBounds_toArray, List.set_cons_zero, List.set_cons_succ, i64_w, i32_w]
                rfl
              refine pure_ (i := 27) (N := some 2) (v := ?_) (a' := ?_) #[true, true, true, true, true, true, true, true, true, true, true, true, true, true, true, true, true, true, true, true, true, true, true, true, true, true, true, true] rfl rfl (any_of HT_.out (by kernel_rfl)) (fun _ _ _ h => h) (Or.inl ⟨by rfl, ?_⟩) ?_ ?_
              rotate_left
              · intro w'
                go_simp
                with_reducible rfl
              rotate_left
              · simp only [Act.put, List.setIfInBounds_toArray, List.set_cons_zero, List.set_cons_succ, i64_w, i32_w]
                rfl
              refine done_ (done_of HT_.out (by kernel_rfl)) ?_
              try go_wp2
              go_ret
              exact ⟨by first | rfl | (simp [errW_none, errW_some] <;> rfl) | (simp [*, errW_none, errW_some] <;> rfl), by repeat (first | (with_reducible first | exact HB.out | apply below_alloc | apply pw_below_drewN | apply below_drew1) | exact HB.out)⟩
          · rw [if_neg c47] at H
            have c47b0 : (t227 == 6) = false := beq_eq_false_iff_ne.mpr c47
            have c47b1 : (t227 != 6) = true := bne_iff_ne.mpr c47
            obtain rfl := Option.some.inj H
            go_enter Tryd.func6, Tryd.ntmps6
            try go_wp2_with (first | ((with_reducible refine gate_callee (f := 9) rfl ?_); refine goesL_ (some 12) rfl rfl Tryd.func9 (by kernel_rfl) rfl #[] rfl (by (try simp only [List.map_toArray, List.map_cons, List.map_nil]); first | done | rfl | (simp only [List.length_drop, List.length_take]; rfl)) ?_; (with_reducible refine (deadboltlaw5_known.calls  true _ A2.out (by first | exact HG.out | exact GL.drewN HG.out _ | exact GL.drewN (GL.drewN HG.out _) _ | exact GL.of_below HG.out (by repeat (first | (with_reducible first | exact HB.out | apply below_alloc | apply pw_below_drewN | apply below_drew1) | exact HB.out)))).mono ?_); rintro e w100 ⟨rfl, hb⟩; refine ⟨_, rfl, ?_⟩; have n0_ := Aside0.mk (below_step (by repeat (first | (with_reducible first | exact HB.out | apply below_alloc | apply pw_below_drewN | apply below_drew1) | exact HB.out)) hb); clear HB; have HB := n0_; clear n0_; (try clear hb); (try clear hb2); (try clear hk); (try clear hi)) | ((with_reducible refine gate_dst (N := 14) rfl ?_); (try (refine gate_guard (by rfl) ?_; dsimp only)); refine Kd.R_lit Kd.string _ 9 ?hg (N := 14) ?hd (xs := ([(⟨#[]⟩ : ByteArray), (⟨#[32, 9, 10, 32]⟩ : ByteArray), (⟨#[97, 123, 98, 125]⟩ : ByteArray), (⟨#[120, 57, 32, 57]⟩ : ByteArray), (⟨#[117, 115, 101, 32, 117, 115, 101, 120]⟩ : ByteArray), (⟨#[123, 32, 123]⟩ : ByteArray), (⟨#[65]⟩ : ByteArray), (⟨#[97, 45, 98]⟩ : ByteArray), (⟨#[97, 13]⟩ : ByteArray), (⟨#[97, 98, 0]⟩ : ByteArray), (⟨#[97, 95, 98]⟩ : ByteArray)] : List ByteArray)) (inner := [.string (⟨#[]⟩ : ByteArray), .string (⟨#[32, 9, 10, 32]⟩ : ByteArray), .string (⟨#[97, 123, 98, 125]⟩ : ByteArray), .string (⟨#[120, 57, 32, 57]⟩ : ByteArray), .string (⟨#[117, 115, 101, 32, 117, 115, 101, 120]⟩ : ByteArray), .string (⟨#[123, 32, 123]⟩ : ByteArray), .string (⟨#[65]⟩ : ByteArray), .string (⟨#[97, 45, 98]⟩ : ByteArray), .string (⟨#[97, 13]⟩ : ByteArray), .string (⟨#[97, 98, 0]⟩ : ByteArray), .string (⟨#[97, 95, 98]⟩ : ByteArray)]) (ok := fun _ => True) (okp := fun _ => True) ?hr ?hp (fun _ hk => hk) trivial (Below.refl _ _) (Nat.le_refl _) (by simp) ?_; (case hd => rfl); (case hg => rfl); (case hr => first | (go_simp; done) | (go_simp; rfl)); (case hp => exact (Reps.one (show Kd.M Kd.string _ _ _ (⟨#[]⟩ : ByteArray) [.string (⟨#[]⟩ : ByteArray)] from rfl) (Reps.one (show Kd.M Kd.string _ _ _ (⟨#[32, 9, 10, 32]⟩ : ByteArray) [.string (⟨#[32, 9, 10, 32]⟩ : ByteArray)] from rfl) (Reps.one (show Kd.M Kd.string _ _ _ (⟨#[97, 123, 98, 125]⟩ : ByteArray) [.string (⟨#[97, 123, 98, 125]⟩ : ByteArray)] from rfl) (Reps.one (show Kd.M Kd.string _ _ _ (⟨#[120, 57, 32, 57]⟩ : ByteArray) [.string (⟨#[120, 57, 32, 57]⟩ : ByteArray)] from rfl) (Reps.one (show Kd.M Kd.string _ _ _ (⟨#[117, 115, 101, 32, 117, 115, 101, 120]⟩ : ByteArray) [.string (⟨#[117, 115, 101, 32, 117, 115, 101, 120]⟩ : ByteArray)] from rfl) (Reps.one (show Kd.M Kd.string _ _ _ (⟨#[123, 32, 123]⟩ : ByteArray) [.string (⟨#[123, 32, 123]⟩ : ByteArray)] from rfl) (Reps.one (show Kd.M Kd.string _ _ _ (⟨#[65]⟩ : ByteArray) [.string (⟨#[65]⟩ : ByteArray)] from rfl) (Reps.one (show Kd.M Kd.string _ _ _ (⟨#[97, 45, 98]⟩ : ByteArray) [.string (⟨#[97, 45, 98]⟩ : ByteArray)] from rfl) (Reps.one (show Kd.M Kd.string _ _ _ (⟨#[97, 13]⟩ : ByteArray) [.string (⟨#[97, 13]⟩ : ByteArray)] from rfl) (Reps.one (show Kd.M Kd.string _ _ _ (⟨#[97, 98, 0]⟩ : ByteArray) [.string (⟨#[97, 98, 0]⟩ : ByteArray)] from rfl) (Reps.one (show Kd.M Kd.string _ _ _ (⟨#[97, 95, 98]⟩ : ByteArray) [.string (⟨#[97, 95, 98]⟩ : ByteArray)] from rfl) (Reps.none _ _))))))))))))); intro v218 w101 ho102 hb hg_ hnew_; clear hg_ hnew_; (first | rw [← Ny217.out] at ho102 | (simp only [Int.reduceToNat] at ho102; rw [← Ny217.out] at ho102)); have n0_ := Aside0.mk (Kd.R_lower ho102 (below_size (by repeat (first | (with_reducible first | exact HB.out | apply below_alloc | apply pw_below_drewN | apply below_drew1) | exact HB.out)))); have n1_ := Aside0.mk (below_step (by repeat (first | (with_reducible first | exact HB.out | apply below_alloc | apply pw_below_drewN | apply below_drew1) | exact HB.out)) hb); clear HB; have HO219 := n0_; have HB := n1_; clear n0_ n1_; clear hb ho102) | ((with_reducible refine gate_dst (N := 15) rfl ?_); (try (refine gate_guard (by rfl) ?_; dsimp only)); refine Kd.R_lit Kd.string _ 9 ?hg (N := 15) ?hd (xs := ([(⟨#[]⟩ : ByteArray), (⟨#[]⟩ : ByteArray), (⟨#[97, 64, 48, 32, 123, 64, 49, 32, 98, 64, 50, 32, 125, 64, 51, 32]⟩ : ByteArray), (⟨#[57]⟩ : ByteArray), (⟨#[117, 115, 101, 64, 48, 32, 117, 115, 101, 120, 64, 52, 32]⟩ : ByteArray), (⟨#[123, 64, 48, 32, 123, 64, 50, 32]⟩ : ByteArray), (⟨#[48]⟩ : ByteArray), (⟨#[49]⟩ : ByteArray), (⟨#[49]⟩ : ByteArray), (⟨#[50]⟩ : ByteArray), (⟨#[49]⟩ : ByteArray)] : List ByteArray)) (inner := [.string (⟨#[]⟩ : ByteArray), .string (⟨#[]⟩ : ByteArray), .string (⟨#[97, 64, 48, 32, 123, 64, 49, 32, 98, 64, 50, 32, 125, 64, 51, 32]⟩ : ByteArray), .string (⟨#[57]⟩ : ByteArray), .string (⟨#[117, 115, 101, 64, 48, 32, 117, 115, 101, 120, 64, 52, 32]⟩ : ByteArray), .string (⟨#[123, 64, 48, 32, 123, 64, 50, 32]⟩ : ByteArray), .string (⟨#[48]⟩ : ByteArray), .string (⟨#[49]⟩ : ByteArray), .string (⟨#[49]⟩ : ByteArray), .string (⟨#[50]⟩ : ByteArray), .string (⟨#[49]⟩ : ByteArray)]) (ok := fun _ => True) (okp := fun _ => True) ?hr ?hp (fun _ hk => hk) trivial (Below.refl _ _) (Nat.le_refl _) (by simp) ?_; (case hd => rfl); (case hg => rfl); (case hr => first | (go_simp; done) | (go_simp; rfl)); (case hp => exact (Reps.one (show Kd.M Kd.string _ _ _ (⟨#[]⟩ : ByteArray) [.string (⟨#[]⟩ : ByteArray)] from rfl) (Reps.one (show Kd.M Kd.string _ _ _ (⟨#[]⟩ : ByteArray) [.string (⟨#[]⟩ : ByteArray)] from rfl) (Reps.one (show Kd.M Kd.string _ _ _ (⟨#[97, 64, 48, 32, 123, 64, 49, 32, 98, 64, 50, 32, 125, 64, 51, 32]⟩ : ByteArray) [.string (⟨#[97, 64, 48, 32, 123, 64, 49, 32, 98, 64, 50, 32, 125, 64, 51, 32]⟩ : ByteArray)] from rfl) (Reps.one (show Kd.M Kd.string _ _ _ (⟨#[57]⟩ : ByteArray) [.string (⟨#[57]⟩ : ByteArray)] from rfl) (Reps.one (show Kd.M Kd.string _ _ _ (⟨#[117, 115, 101, 64, 48, 32, 117, 115, 101, 120, 64, 52, 32]⟩ : ByteArray) [.string (⟨#[117, 115, 101, 64, 48, 32, 117, 115, 101, 120, 64, 52, 32]⟩ : ByteArray)] from rfl) (Reps.one (show Kd.M Kd.string _ _ _ (⟨#[123, 64, 48, 32, 123, 64, 50, 32]⟩ : ByteArray) [.string (⟨#[123, 64, 48, 32, 123, 64, 50, 32]⟩ : ByteArray)] from rfl) (Reps.one (show Kd.M Kd.string _ _ _ (⟨#[48]⟩ : ByteArray) [.string (⟨#[48]⟩ : ByteArray)] from rfl) (Reps.one (show Kd.M Kd.string _ _ _ (⟨#[49]⟩ : ByteArray) [.string (⟨#[49]⟩ : ByteArray)] from rfl) (Reps.one (show Kd.M Kd.string _ _ _ (⟨#[49]⟩ : ByteArray) [.string (⟨#[49]⟩ : ByteArray)] from rfl) (Reps.one (show Kd.M Kd.string _ _ _ (⟨#[50]⟩ : ByteArray) [.string (⟨#[50]⟩ : ByteArray)] from rfl) (Reps.one (show Kd.M Kd.string _ _ _ (⟨#[49]⟩ : ByteArray) [.string (⟨#[49]⟩ : ByteArray)] from rfl) (Reps.none _ _))))))))))))); intro v221 w103 ho104 hb hg_ hnew_; clear hg_ hnew_; (first | rw [← Ny220.out] at ho104 | (simp only [Int.reduceToNat] at ho104; rw [← Ny220.out] at ho104)); have n0_ := Aside0.mk (Kd.R_elder' (by (with_reducible repeat (first | apply Kd.R_alloc | apply Kd.R_drewN | apply Kd.R_drew)); exact HO219.out) (Kd.R_base ho104) hb); have n1_ := Aside0.mk (Kd.R_lower (Kd.R_new' ho104 (Kd.R_lt (by (with_reducible repeat (first | apply Kd.R_alloc | apply Kd.R_drewN | apply Kd.R_drew)); exact HO219.out))) (below_size (by repeat (first | (with_reducible first | exact HB.out | apply below_alloc | apply pw_below_drewN | apply below_drew1) | exact HB.out)))); have n2_ := Aside0.mk (below_step (by repeat (first | (with_reducible first | exact HB.out | apply below_alloc | apply pw_below_drewN | apply below_drew1) | exact HB.out)) hb); clear HO219; clear HB; have HO219 := n0_; have HO222 := n1_; have HB := n2_; clear n0_ n1_ n2_; clear hb ho104; obtain ⟨Ao105, co105, eo105⟩ := Kd.R_slice HO219.out; subst eo105) | ((with_reducible refine gate_callee (f := 10) rfl ?_); refine goesL_ (some 19) rfl rfl Tryd.func10 (by kernel_rfl) rfl #[.int .i64 a0, .int .i64 (y217.length : Int)] rfl (by (try simp only [List.map_toArray, List.map_cons, List.map_nil]); first | done | rfl | (simp only [List.length_drop, List.length_take]; rfl)) ?_; (with_reducible refine (deadboltlaw5_within.calls a0 (y217.length : Int) t223 _ A4.out).mono ?_); rintro e w' ⟨rfl, ⟨nd, rfl⟩⟩; refine ⟨_, rfl, ?_⟩; have p224 : 0 ≤ (t223 : Int) := of_decide_eq_true (by first | (with_reducible assumption) | assumption); have q224 : t223 < (y217.length : Int) := of_decide_eq_true (by first | (with_reducible assumption) | assumption); obtain ⟨ad224, e224, hx224_0⟩ := Kd.at_string (Kd.R_reads' HO219.out).2.2 t223 p224 q224; cases e224; replace p224 := eq_true p224; replace q224 := eq_true q224) | ((with_reducible refine gate_callee (f := 12) rfl ?_); refine goesL_ (some 25) rfl rfl Tryd.func12 (by kernel_rfl) rfl #[.string (rdOf ByteArray.empty y217 t223)] rfl (by (try simp only [List.map_toArray, List.map_cons, List.map_nil]); first | done | rfl | (simp only [List.length_drop, List.length_take]; rfl)) ?_; (with_reducible refine (lex_Tokens.calls (rdOf ByteArray.empty y217 t223) t225 t226 t227 _ A7.out).mono ?_); rintro e w106 ⟨v228, rfl, ho0, hb⟩; refine ⟨_, rfl, ?_⟩; have n0_ := Aside0.mk (Kd.R_below (by (with_reducible repeat (first | apply Kd.R_alloc | apply Kd.R_drewN | apply Kd.R_drew)); exact HO219.out) hb); have n1_ := Aside0.mk (Kd.R_below (by (with_reducible repeat (first | apply Kd.R_alloc | apply Kd.R_drewN | apply Kd.R_drew)); exact HO222.out) hb); have n2_ := Aside0.mk (Kd.R_lower ho0 (below_size (by repeat (first | (with_reducible first | exact HB.out | apply below_alloc | apply pw_below_drewN | apply below_drew1) | exact HB.out)))); have n3_ := Aside0.mk (below_step (by repeat (first | (with_reducible first | exact HB.out | apply below_alloc | apply pw_below_drewN | apply below_drew1) | exact HB.out)) hb); clear HO219; clear HO222; clear HB; have HO219 := n0_; have HO222 := n1_; have HO229 := n2_; have HB := n3_; clear n0_ n1_ n2_ n3_; (try clear hb); (try clear hb2); (try clear hk); (try clear hi); (try clear ho0)))
            have n0_ := Aside0.mk (Kd.R_drew HO219.out)
            have n1_ := Aside0.mk (Kd.R_drew HO222.out)
            have n2_ := Aside0.mk (Kd.R_drew HO229.out)
            have n3_ := Aside0.mk (below_drew1 HB.out)
            clear HO219
            clear HO222
            clear HO229
            clear HB
            have HO219 := n0_
            have HO222 := n1_
            have HO229 := n2_
            have HB := n3_
            clear n0_ n1_ n2_ n3_
            refine start_ (n := 28) (S := fun w' => True) (ds := []) #[false, false, false, false, false, false, false, false, false, false, false, false, false, false, false, false, false, false, false, false, false, false, false, false, false, false, false, false] (by kernel_rfl) rfl rfl trivial (fun hHeld => ?_); refine with_tabW deadboltlaw5_LexKnown.tab8 deadboltlaw5_LexKnown.bits8 (fun HT_ HW_ => ?_)
            generalize w106.drew = w107 at HO219 HO222 HO229 HB hHeld ⊢
            refine pure_ (i := 0) (N := some 31) (v := ?_) (a' := ?_) #[true, false, false, false, false, false, false, false, false, false, false, false, false, false, false, false, false, false, false, false, false, false, false, false, false, false, false, false] rfl rfl (any_of HT_.out (by kernel_rfl)) (fun _ _ _ h => h) (Or.inl ⟨by rfl, ?_⟩) ?_ ?_
            rotate_left
            · intro w'
              go_simp
              with_reducible rfl
            rotate_left
            · simp only [Act.put, List.setIfInBounds_toArray, List.set_cons_zero, List.set_cons_succ, i64_w, i32_w]
              rfl
            refine pure_ (i := 1) (N := some 32) (v := ?_) (a' := ?_) #[true, true, false, false, false, false, false, false, false, false, false, false, false, false, false, false, false, false, false, false, false, false, false, false, false, false, false, false] rfl rfl (any_of HT_.out (by kernel_rfl)) (fun _ _ _ h => h) (Or.inl ⟨by rfl, ?_⟩) ?_ ?_
            rotate_left
            · intro w'
              go_simp
              with_reducible rfl
            rotate_left
            · simp only [Act.put, List.setIfInBounds_toArray, List.set_cons_zero, List.set_cons_succ, i64_w, i32_w]
              rfl
            refine pure_ (i := 2) (N := some 33) (v := ?_) (a' := ?_) #[true, true, true, false, false, false, false, false, false, false, false, false, false, false, false, false, false, false, false, false, false, false, false, false, false, false, false, false] rfl rfl (any_of HT_.out (by kernel_rfl)) (fun _ _ _ h => h) (Or.inl ⟨by rfl, ?_⟩) ?_ ?_
            rotate_left
            · intro w'
              go_simp
              with_reducible rfl
            rotate_left
            · simp only [Act.put, List.setIfInBounds_toArray, List.set_cons_zero, List.set_cons_succ, i64_w, i32_w]
              rfl
            refine pure_ (i := 3) (N := some 34) (v := undef) (a' := ?_) #[true, true, true, true, false, false, false, false, false, false, false, false, false, false, false, false, false, false, false, false, false, false, false, false, false, false, false, false] rfl rfl (any_of HT_.out (by kernel_rfl)) (fun _ _ _ h => h) (Or.inr ⟨by rfl, rfl⟩) ?_ ?_
            rotate_left
            · simp only [Act.put, List.setIfInBounds_toArray, List.set_cons_zero, List.set_cons_succ, i64_w, i32_w]
              rfl
            refine pure_ (i := 4) (N := some 35) (v := undef) (a' := ?_) #[true, true, true, true, true, false, false, false, false, false, false, false, false, false, false, false, false, false, false, false, false, false, false, false, false, false, false, false] rfl rfl (any_of HT_.out (by kernel_rfl)) (fun _ _ _ h => h) (Or.inr ⟨by rfl, rfl⟩) ?_ ?_
            rotate_left
            · simp only [Act.put, List.setIfInBounds_toArray, List.set_cons_zero, List.set_cons_succ, i64_w, i32_w]
              rfl
            refine pure_ (i := 5) (N := some 36) (v := undef) (a' := ?_) #[true, true, true, true, true, true, false, false, false, false, false, false, false, false, false, false, false, false, false, false, false, false, false, false, false, false, false, false] rfl rfl (any_of HT_.out (by kernel_rfl)) (fun _ _ _ h => h) (Or.inr ⟨by rfl, rfl⟩) ?_ ?_
            rotate_left
            · simp only [Act.put, List.setIfInBounds_toArray, List.set_cons_zero, List.set_cons_succ, i64_w, i32_w]
              rfl
            refine pure_ (i := 6) (N := some 37) (v := ?_) (a' := ?_) #[true, true, true, true, true, true, true, false, false, false, false, false, false, false, false, false, false, false, false, false, false, false, false, false, false, false, false, false] rfl rfl (any_of HT_.out (by kernel_rfl)) (fun _ _ _ h => h) (Or.inl ⟨by rfl, ?_⟩) ?_ ?_
            rotate_left
            · intro w'
              go_simp
              with_reducible rfl
            rotate_left
            · simp only [Act.put, List.setIfInBounds_toArray, List.set_cons_zero, List.set_cons_succ, i64_w, i32_w]
              rfl
            refine pure_ (i := 7) (N := some 38) (v := ?_) (a' := ?_) #[true, true, true, true, true, true, true, true, false, false, false, false, false, false, false, false, false, false, false, false, false, false, false, false, false, false, false, false] rfl rfl (any_of HT_.out (by kernel_rfl)) (fun _ _ _ h => h) (Or.inl ⟨by rfl, ?_⟩) ?_ ?_
            rotate_left
            · intro w'
              go_simp
              with_reducible rfl
            rotate_left
            · simp only [Act.put, List.setIfInBounds_toArray, List.set_cons_zero, List.set_cons_succ, i64_w, i32_w]
              rfl
            refine pure_ (i := 8) (N := some 39) (v := undef) (a' := ?_) #[true, true, true, true, true, true, true, true, true, false, false, false, false, false, false, false, false, false, false, false, false, false, false, false, false, false, false, false] rfl rfl (any_of HT_.out (by kernel_rfl)) (fun _ _ _ h => h) (Or.inr ⟨by rfl, rfl⟩) ?_ ?_
            rotate_left
            · simp only [Act.put, List.setIfInBounds_toArray, List.set_cons_zero, List.set_cons_succ, i64_w, i32_w]
              rfl
            refine pure_ (i := 9) (N := some 40) (v := undef) (a' := ?_) #[true, true, true, true, true, true, true, true, true, true, false, false, false, false, false, false, false, false, false, false, false, false, false, false, false, false, false, false] rfl rfl (any_of HT_.out (by kernel_rfl)) (fun _ _ _ h => h) (Or.inr ⟨by rfl, rfl⟩) ?_ ?_
            rotate_left
            · simp only [Act.put, List.setIfInBounds_toArray, List.set_cons_zero, List.set_cons_succ, i64_w, i32_w]
              rfl
            refine pure_ (i := 10) (N := some 41) (v := undef) (a' := ?_) #[true, true, true, true, true, true, true, true, true, true, true, false, false, false, false, false, false, false, false, false, false, false, false, false, false, false, false, false] rfl rfl (any_of HT_.out (by kernel_rfl)) (fun _ _ _ h => h) (Or.inr ⟨by rfl, rfl⟩) ?_ ?_
            rotate_left
            · simp only [Act.put, List.setIfInBounds_toArray, List.set_cons_zero, List.set_cons_succ, i64_w, i32_w]
              rfl
            refine pure_ (i := 11) (N := some 42) (v := undef) (a' := ?_) #[true, true, true, true, true, true, true, true, true, true, true, true, false, false, false, false, false, false, false, false, false, false, false, false, false, false, false, false] rfl rfl (any_of HT_.out (by kernel_rfl)) (fun _ _ _ h => h) (Or.inr ⟨by rfl, rfl⟩) ?_ ?_
            rotate_left
            · simp only [Act.put, List.setIfInBounds_toArray, List.set_cons_zero, List.set_cons_succ, i64_w, i32_w]
              rfl
            refine pure_ (i := 12) (N := some 43) (v := undef) (a' := ?_) #[true, true, true, true, true, true, true, true, true, true, true, true, true, false, false, false, false, false, false, false, false, false, false, false, false, false, false, false] rfl rfl (any_of HT_.out (by kernel_rfl)) (fun _ _ _ h => h) (Or.inr ⟨by rfl, rfl⟩) ?_ ?_
            rotate_left
            · simp only [Act.put, List.setIfInBounds_toArray, List.set_cons_zero, List.set_cons_succ, i64_w, i32_w]
              rfl
            refine pure_ (i := 13) (N := some 44) (v := undef) (a' := ?_) #[true, true, true, true, true, true, true, true, true, true, true, true, true, true, false, false, false, false, false, false, false, false, false, false, false, false, false, false] rfl rfl (any_of HT_.out (by kernel_rfl)) (fun _ _ _ h => h) (Or.inr ⟨by rfl, rfl⟩) ?_ ?_
            rotate_left
            · simp only [Act.put, List.setIfInBounds_toArray, List.set_cons_zero, List.set_cons_succ, i64_w, i32_w]
              rfl
            refine pure_ (i := 14) (N := some 45) (v := undef) (a' := ?_) #[true, true, true, true, true, true, true, true, true, true, true, true, true, true, true, false, false, false, false, false, false, false, false, false, false, false, false, false] rfl rfl (any_of HT_.out (by kernel_rfl)) (fun _ _ _ h => h) (Or.inr ⟨by rfl, rfl⟩) ?_ ?_
            rotate_left
            · simp only [Act.put, List.setIfInBounds_toArray, List.set_cons_zero, List.set_cons_succ, i64_w, i32_w]
              rfl
            refine pure_ (i := 15) (N := some 46) (v := undef) (a' := ?_) #[true, true, true, true, true, true, true, true, true, true, true, true, true, true, true, true, false, false, false, false, false, false, false, false, false, false, false, false] rfl rfl (any_of HT_.out (by kernel_rfl)) (fun _ _ _ h => h) (Or.inr ⟨by rfl, rfl⟩) ?_ ?_
            rotate_left
            · simp only [Act.put, List.setIfInBounds_toArray, List.set_cons_zero, List.set_cons_succ, i64_w, i32_w]
              rfl
            refine pure_ (i := 16) (N := some 47) (v := undef) (a' := ?_) #[true, true, true, true, true, true, true, true, true, true, true, true, true, true, true, true, true, false, false, false, false, false, false, false, false, false, false, false] rfl rfl (any_of HT_.out (by kernel_rfl)) (fun _ _ _ h => h) (Or.inr ⟨by rfl, rfl⟩) ?_ ?_
            rotate_left
            · simp only [Act.put, List.setIfInBounds_toArray, List.set_cons_zero, List.set_cons_succ, i64_w, i32_w]
              rfl
            refine pure_ (i := 17) (N := some 48) (v := undef) (a' := ?_) #[true, true, true, true, true, true, true, true, true, true, true, true, true, true, true, true, true, true, false, false, false, false, false, false, false, false, false, false] rfl rfl (any_of HT_.out (by kernel_rfl)) (fun _ _ _ h => h) (Or.inr ⟨by rfl, rfl⟩) ?_ ?_
            rotate_left
            · simp only [Act.put, List.setIfInBounds_toArray, List.set_cons_zero, List.set_cons_succ, i64_w, i32_w]
              rfl
            refine pure_ (i := 18) (N := some 49) (v := undef) (a' := ?_) #[true, true, true, true, true, true, true, true, true, true, true, true, true, true, true, true, true, true, true, false, false, false, false, false, false, false, false, false] rfl rfl (any_of HT_.out (by kernel_rfl)) (fun _ _ _ h => h) (Or.inr ⟨by rfl, rfl⟩) ?_ ?_
            rotate_left
            · simp only [Act.put, List.setIfInBounds_toArray, List.set_cons_zero, List.set_cons_succ, i64_w, i32_w]
              rfl
            refine pure_ (i := 19) (N := some 50) (v := undef) (a' := ?_) #[true, true, true, true, true, true, true, true, true, true, true, true, true, true, true, true, true, true, true, true, false, false, false, false, false, false, false, false] rfl rfl (any_of HT_.out (by kernel_rfl)) (fun _ _ _ h => h) (Or.inr ⟨by rfl, rfl⟩) ?_ ?_
            rotate_left
            · simp only [Act.put, List.setIfInBounds_toArray, List.set_cons_zero, List.set_cons_succ, i64_w, i32_w]
              rfl
            refine pure_ (i := 20) (N := some 51) (v := undef) (a' := ?_) #[true, true, true, true, true, true, true, true, true, true, true, true, true, true, true, true, true, true, true, true, true, false, false, false, false, false, false, false] rfl rfl (any_of HT_.out (by kernel_rfl)) (fun _ _ _ h => h) (Or.inr ⟨by rfl, rfl⟩) ?_ ?_
            rotate_left
            · simp only [Act.put, List.setIfInBounds_toArray, List.set_cons_zero, List.set_cons_succ, i64_w, i32_w]
              rfl
            refine pure_ (i := 21) (N := some 52) (v := undef) (a' := ?_) #[true, true, true, true, true, true, true, true, true, true, true, true, true, true, true, true, true, true, true, true, true, true, false, false, false, false, false, false] rfl rfl (any_of HT_.out (by kernel_rfl)) (fun _ _ _ h => h) (Or.inr ⟨by rfl, rfl⟩) ?_ ?_
            rotate_left
            · simp only [Act.put, List.setIfInBounds_toArray, List.set_cons_zero, List.set_cons_succ, i64_w, i32_w]
              rfl
            refine pure_ (i := 22) (N := some 53) (v := undef) (a' := ?_) #[true, true, true, true, true, true, true, true, true, true, true, true, true, true, true, true, true, true, true, true, true, true, true, false, false, false, false, false] rfl rfl (any_of HT_.out (by kernel_rfl)) (fun _ _ _ h => h) (Or.inr ⟨by rfl, rfl⟩) ?_ ?_
            rotate_left
            · simp only [Act.put, List.setIfInBounds_toArray, List.set_cons_zero, List.set_cons_succ, i64_w, i32_w]
              rfl
            refine pure_ (i := 23) (N := some 54) (v := undef) (a' := ?_) #[true, true, true, true, true, true, true, true, true, true, true, true, true, true, true, true, true, true, true, true, true, true, true, true, false, false, false, false] rfl rfl (any_of HT_.out (by kernel_rfl)) (fun _ _ _ h => h) (Or.inr ⟨by rfl, rfl⟩) ?_ ?_
            rotate_left
            · simp only [Act.put, List.setIfInBounds_toArray, List.set_cons_zero, List.set_cons_succ, i64_w, i32_w]
              rfl
            refine pure_ (i := 24) (N := some 55) (v := undef) (a' := ?_) #[true, true, true, true, true, true, true, true, true, true, true, true, true, true, true, true, true, true, true, true, true, true, true, true, true, false, false, false] rfl rfl (any_of HT_.out (by kernel_rfl)) (fun _ _ _ h => h) (Or.inr ⟨by rfl, rfl⟩) ?_ ?_
            rotate_left
            · simp only [Act.put, List.setIfInBounds_toArray, List.set_cons_zero, List.set_cons_succ, i64_w, i32_w]
              rfl
            refine pure_ (i := 25) (N := some 56) (v := undef) (a' := ?_) #[true, true, true, true, true, true, true, true, true, true, true, true, true, true, true, true, true, true, true, true, true, true, true, true, true, true, false, false] rfl rfl (any_of HT_.out (by kernel_rfl)) (fun _ _ _ h => h) (Or.inr ⟨by rfl, rfl⟩) ?_ ?_
            rotate_left
            · simp only [Act.put, List.setIfInBounds_toArray, List.set_cons_zero, List.set_cons_succ, i64_w, i32_w]
              rfl
            refine pure_ (i := 26) (N := some 57) (v := ?_) (a' := ?_) #[true, true, true, true, true, true, true, true, true, true, true, true, true, true, true, true, true, true, true, true, true, true, true, true, true, true, true, false] rfl rfl (any_of HT_.out (by kernel_rfl)) (fun _ _ _ h => h) (Or.inl ⟨by rfl, ?_⟩) ?_ ?_
            rotate_left
            · intro w'
              go_simp
              with_reducible rfl
            rotate_left
            · simp only [Act.put, List.setIfInBounds_toArray, List.set_cons_zero, List.set_cons_succ, i64_w, i32_w]
              rfl
            refine pure_ (i := 27) (N := some 2) (v := ?_) (a' := ?_) #[true, true, true, true, true, true, true, true, true, true, true, true, true, true, true, true, true, true, true, true, true, true, true, true, true, true, true, true] rfl rfl (any_of HT_.out (by kernel_rfl)) (fun _ _ _ h => h) (Or.inl ⟨by rfl, ?_⟩) ?_ ?_
            rotate_left
            · intro w'
              go_simp
              with_reducible rfl
            rotate_left
            · simp only [Act.put, List.setIfInBounds_toArray, List.set_cons_zero, List.set_cons_succ, i64_w, i32_w]
              rfl
            refine done_ (done_of HT_.out (by kernel_rfl)) ?_
            try go_wp2
            go_ret
            exact ⟨by first | rfl | (simp [errW_none, errW_some] <;> rfl) | (simp [*, errW_none, errW_some] <;> rfl), by repeat (first | (with_reducible first | exact HB.out | apply below_alloc | apply pw_below_drewN | apply below_drew1) | exact HB.out)⟩
      · rw [if_neg c6] at H
        exact absurd H (by simp)
    · rw [if_neg c5] at H
      exact absurd H (by simp)
  · replace c3 := Bool.eq_false_iff.mpr c3
    subst c3
    have H1 : (some false) = some r := by rw [if_neg (show ¬ (false = true) by decide)] at H; exact H
    clear H
    have H := H1
    clear H1
    obtain rfl := Option.some.inj H
    go_enter Tryd.func6, Tryd.ntmps6
    go_wp2_with (first | ((with_reducible refine gate_callee (f := 9) rfl ?_); refine goesL_ (some 12) rfl rfl Tryd.func9 (by kernel_rfl) rfl #[] rfl (by (try simp only [List.map_toArray, List.map_cons, List.map_nil]); first | done | rfl | (simp only [List.length_drop, List.length_take]; rfl)) ?_; (with_reducible refine (deadboltlaw5_known.calls  false _ A2.out (by first | exact HG.out | exact GL.drewN HG.out _ | exact GL.drewN (GL.drewN HG.out _) _ | exact GL.of_below HG.out (by repeat (first | (with_reducible first | exact HB.out | apply below_alloc | apply pw_below_drewN | apply below_drew1) | exact HB.out)))).mono ?_); rintro e w108 ⟨rfl, hb⟩; refine ⟨_, rfl, ?_⟩; have n0_ := Aside0.mk (below_step (by repeat (first | (with_reducible first | exact HB.out | apply below_alloc | apply pw_below_drewN | apply below_drew1) | exact HB.out)) hb); clear HB; have HB := n0_; clear n0_; (try clear hb); (try clear hb2); (try clear hk); (try clear hi)))
    go_ret
    exact ⟨by first | rfl | (simp [errW_none, errW_some] <;> rfl) | (simp [*, errW_none, errW_some] <;> rfl), by repeat (first | (with_reducible first | exact HB.out | apply below_alloc | apply pw_below_drewN | apply below_drew1) | exact HB.out)⟩

/-- THE ONE PURE STATEMENT of deadboltlaw5_LexKnown: yours. -/
def deadboltlaw5_LexKnown.Pure : Prop := ∀ (a0 : Int), (Lit.int .i64 a0).wf = true → ∃ k, deadboltlaw5_LexKnown.f k a0 = some true
theorem deadboltlaw5_LexKnown.walk (P : deadboltlaw5_LexKnown.Pure) (a0 : Int) (w : World) (w0 : (Lit.int .i64 a0).wf = true) (hG : GL w) :
    Calls Tryd.prog 6 #[.int .i64 a0] w fun e w' => e = .returned (.bool true) ∧ Below w.heap.size w w' := by
  obtain ⟨k, h⟩ := P a0 w0
  refine (deadboltlaw5_LexKnown.calls k a0 true w h hG).mono ?_
  rintro e w' ⟨rfl, hd⟩
  exact ⟨rfl, hd⟩

end Go.Proofs.YtcabcedlnikbaaaDoor.Q
