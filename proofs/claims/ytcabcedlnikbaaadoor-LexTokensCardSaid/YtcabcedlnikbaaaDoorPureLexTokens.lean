/- LexTokens: for every text that the law tries, lex.Tokens tells what the document's Tokens tells. In plain words; no condition beyond the row's own. -/
import Derived.Test.YtcabcedlnikbaaaDoorLexLaw
import Derived.Test.YtcabcedlnikbaaaDoorQ5
namespace Go.Proofs.YtcabcedlnikbaaaDoor.Pure
open Go.RowKit Go.Proofs.YtcabcedlnikbaaaDoor.Q Go.Proofs.YtcabcedlnikbaaaDoor.Lx Go.Proofs.YtcabcedlnikbaaaDoorW.PrintWords Go.Proofs.YtcabcedlnikbaaaDoorW.PrintLast

theorem LexTokens_l0 (ss : List ByteArray) (hs : ss.length ≤ 100) : ∀ (d i : Nat), ss.length - i = d → i ≤ ss.length → EvS (fun k => deadboltlaw5_LexTokens.l0 k ss (i : Int)) true := by
  intro d
  induction d with
  | zero =>
    intro i hd hi
    refine EvS.succ ?_
    simp only [deadboltlaw5_LexTokens.l0]
    exact EvS.if_neg (by omega) (.some_ _)
  | succ d ih =>
    intro i hd hi
    have hw : wrap64 ((i : Int) + 1) = ((i + 1 : Nat) : Int) := by rw [w64 (by omega)]; omega
    obtain ⟨r, hr, hev⟩ := ref5_Tokens_ev (rdOf ByteArray.empty ss (i : Int))
    refine EvS.succ ?_
    simp only [deadboltlaw5_LexTokens.l0]
    refine EvS.if_pos (by omega) (EvS.if_pos (by omega) (EvS.bind1 hr (EvS.bind hev (EvS.if_pos rfl (EvS.if_pos rfl (EvS.bind (same_refl _ (lex_Tokens_len hr)) (EvS.if_pos rfl ?_)))))))
    rw [hw]
    exact ih (i + 1) (by omega) (by omega)

theorem LexTokens : deadboltlaw5_LexTokens.Pure := by
  intro l0 a1 a2 hl _ _ h1 h2
  apply EvS.exists_
  unfold deadboltlaw5_LexTokens.f
  refine EvS.bind1 law5_known_f (EvS.if_pos rfl ?_)
  by_cases hb : (a1.size : Int) > 2100
  · exact EvS.if_pos hb (.some_ _)
  have hm : 0 ≤ a2 % 10 ∧ a2 % 10 < 10 := by omega
  have hw : wrap64 (1995 + a2 % 10) = 1995 + a2 % 10 := w64 (by omega)
  have hl' : l0.length ≤ 9223372036854775807 := by simpa [maxLen] using hl
  have ht := txt_len l0
  refine EvS.if_neg hb (EvS.bind1 (within_f a2 10 (by decide) (by decide)) (EvS.if_pos (by rw [hw]; omega) (EvS.if_pos (by rw [hw]; omega) (EvS.bind (Text_ev l0 hl') (EvS.bind (Text_ev l0 hl') (EvS.if_pos ?_ ?_))))))
  · have : (⟨(txt l0).toArray⟩ : ByteArray).size = (txt l0).length := by simp [ByteArray.size]
    omega
  · exact LexTokens_l0 _ (by simp) _ 0 rfl (by omega)
end Go.Proofs.YtcabcedlnikbaaaDoor.Pure
