/- LexNames: whether a text is a name is told as the document says; the words of the language are none; twelve signs may be, more may not. In plain words; no condition beyond the row's own. -/
import Derived.Test.YtcabcedlnikbaaaDoorLexLaw
import Derived.Test.YtcabcedlnikbaaaDoorQ6
namespace Go.Proofs.YtcabcedlnikbaaaDoor.Pure
open Go.RowKit Go.Proofs.YtcabcedlnikbaaaDoor.Q Go.Proofs.YtcabcedlnikbaaaDoor.Lx Go.Proofs.YtcabcedlnikbaaaDoorW.PrintWords Go.Proofs.YtcabcedlnikbaaaDoorW.PrintLast

def alpha : ByteArray := ⟨#[97, 98, 99, 100, 101, 102, 103, 104, 105, 106, 107, 108, 109, 110, 111, 112]⟩
theorem alpha_take (n : Nat) : (alpha.extract 0 n).data.toList = alpha.data.toList.take n := by
  rw [Lib.extract_data]; simp
theorem alpha_names : ∀ n, n < 16 → nameB (alpha.data.toList.take n) = (decide (1 ≤ n) && decide (n ≤ 12)) := by decide
theorem words_none : ∀ j, j < 11 → nameB (wordsC.getD j []) = false := by decide
theorem words_more : ∀ j, j < 11 → nameB (wordsC.getD j [] ++ [120]) = true := by decide
theorem words_less : ∀ j, j < 11 → nameB (57 :: wordsC.getD j []) = false := by decide
theorem words_short : ∀ j, j < 11 → (wordsC.getD j []).length ≤ 6 := by decide

theorem LexNames : deadboltlaw5_LexNames.Pure := by
  intro a0 a1 a2 h0 h1 h2
  apply EvS.exists_
  unfold deadboltlaw5_LexNames.f
  refine EvS.bind1 law5_known_f (EvS.if_pos rfl ?_)
  by_cases hb : (a0.size : Int) > 100
  · exact EvS.if_pos hb (.some_ _)
  refine EvS.if_neg hb (EvS.bind1 (within_f a1 16 (by decide) (by decide)) (EvS.if_pos (by omega) (EvS.if_pos (by omega) (EvS.bind1 (a := wordsBA) rfl (EvS.bind1 (within_f a2 11 (by decide) (by decide)) (EvS.if_pos (by omega) (EvS.if_pos (by show a2 % 11 < 11; omega) ?_)))))))
  have hrd : rdOf ByteArray.empty wordsBA (a2 % 11) = ⟨(wordsC.getD (a2 % 11).toNat []).toArray⟩ := rdOf_ba wordsC _ (by omega) (by show a2 % 11 < 11; omega)
  rw [hrd]
  obtain ⟨j, hj, hj'⟩ : ∃ j : Nat, j < 11 ∧ (a2 % 11).toNat = j := ⟨(a2 % 11).toNat, by omega, rfl⟩
  obtain ⟨n, hn, hn'⟩ : ∃ n : Nat, n < 16 ∧ a1 % 16 = (n : Int) := ⟨(a1 % 16).toNat, by omega, by omega⟩
  rw [hj', hn']
  refine EvS.bind1 (lex_Name_f a0) (EvS.bind (Name_ev a0) (EvS.if_pos (by simp) (EvS.bind1 (lex_Name_f _) ?_)))
  have e1 : nameB ((⟨#[97, 98, 99, 100, 101, 102, 103, 104, 105, 106, 107, 108, 109, 110, 111, 112]⟩ : ByteArray).extract 0 (n : Int).toNat).data.toList = (decide (1 ≤ n) && decide (n ≤ 12)) := by
    rw [Int.toNat_natCast]
    exact (congrArg nameB (alpha_take n)).trans (alpha_names n hn)
  have hs : (⟨(wordsC.getD j []).toArray⟩ : ByteArray).size ≤ 6 := by have := words_short j hj; simpa [ByteArray.size] using this
  have fin : EvS (fun _ : Nat => (lex_Name.f (⟨(wordsC.getD j []).toArray⟩ : ByteArray)).bind fun t175 => (if t175 = true then (some false) else (if (⟨(wordsC.getD j []).toArray⟩ : ByteArray).size + 1 ≤ 9223372036854775807 then ((lex_Name.f ((⟨(wordsC.getD j []).toArray⟩ : ByteArray) ++ (⟨#[120]⟩ : ByteArray))).bind fun t176 => (if t176 = true then (if 1 + (⟨(wordsC.getD j []).toArray⟩ : ByteArray).size ≤ 9223372036854775807 then ((lex_Name.f ((⟨#[57]⟩ : ByteArray) ++ (⟨(wordsC.getD j []).toArray⟩ : ByteArray))).bind fun t177 => (if t177 = true then (some false) else ((lex_Name.f (⟨#[65]⟩ : ByteArray)).bind fun t178 => (some (!t178))))) else (none)) else (some false))) else (none)))) true := by
    have x1 : (⟨(wordsC.getD j []).toArray⟩ : ByteArray) ++ (⟨#[120]⟩ : ByteArray) = ⟨(wordsC.getD j [] ++ [120]).toArray⟩ := ba_app _ [120]
    have x2 : (⟨#[57]⟩ : ByteArray) ++ (⟨(wordsC.getD j []).toArray⟩ : ByteArray) = ⟨([57] ++ wordsC.getD j []).toArray⟩ := ba_app [57] _
    refine EvS.bind1 (a := false) ((lex_Name_f _).trans (congrArg some (words_none j hj))) (EvS.if_neg (by decide) (EvS.if_pos (by omega) (EvS.bind1 (a := true) ((lex_Name_f _).trans (congrArg some ?_)) (EvS.if_pos rfl (EvS.if_pos (by omega) (EvS.bind1 (a := false) ((lex_Name_f _).trans (congrArg some ?_)) (EvS.if_neg (by decide) (EvS.bind1 (a := false) (by decide) ?_))))))))
    · rw [x1]; exact words_more j hj
    · rw [x2]; exact words_less j hj
    · exact .some_ _
  by_cases hn1 : (n : Int) ≥ 1
  · refine EvS.if_pos hn1 (EvS.if_pos ?_ fin)
    rw [e1, decide_eq_true (by omega : 1 ≤ n), Bool.true_and]
    have : decide ((n : Int) ≤ 12) = decide (n ≤ 12) := by simp; omega
    rw [this]; simp
  · refine EvS.if_neg hn1 (EvS.if_pos ?_ fin)
    rw [e1, decide_eq_false (by omega : ¬ 1 ≤ n)]
    rfl
end Go.Proofs.YtcabcedlnikbaaaDoor.Pure
