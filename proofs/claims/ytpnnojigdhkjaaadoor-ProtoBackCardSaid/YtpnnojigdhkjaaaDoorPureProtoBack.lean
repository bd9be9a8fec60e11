/- ProtoBack, in plain words. -/
import Derived.Test.YtpnnojigdhkjaaaDoorProLaw
import Derived.Test.YtpnnojigdhkjaaaDoorQ6
namespace Go.Proofs.YtpnnojigdhkjaaaDoor.Pure
open Go.RowKit Go.Proofs.YtpnnojigdhkjaaaDoor.Q Go.Proofs.YtpnnojigdhkjaaaDoorW.PrintWords Go.Proofs.YtpnnojigdhkjaaaDoorW.PrintLast Go.Proofs.YtpnnojigdhkjaaaDoorW.PrintMore Go.Proofs.YtpnnojigdhkjaaaDoor.Lx
set_option linter.unusedVariables false
set_option linter.unusedSimpArgs false

theorem ProtoBack : deadboltlaw15_ProtoBack.Pure := by
  intro a0 a1 a2 l3 _ _ h2 h3 _ _
  refine EvS.exists_ ?_
  unfold deadboltlaw15_ProtoBack.f
  refine EvS.bind known_ev (EvS.if_pos rfl ?_)
  by_cases hs : (a2.size : Int) > 2500
  · exact EvS.if_pos hs (.some_ _)
  · refine EvS.if_neg hs ?_
    have ht := Text_ev l3 (by unfold maxLen at h3; omega)
    have hl : (⟨(txt l3).toArray⟩ : ByteArray).size ≤ 1950 := by
      have := txt_len l3
      simpa [ByteArray.size] using this
    have ha : (a2 ++ (⟨(txt l3).toArray⟩ : ByteArray)).size = a2.size + (⟨(txt l3).toArray⟩ : ByteArray).size := ByteArray.size_append
    obtain ⟨k, n, t, hm, hg, _⟩ := Make_ev a0 a1 (a2 ++ ⟨(txt l3).toArray⟩) (by omega)
    refine EvS.bind ht (EvS.if_pos (by omega) (EvS.bind hm (EvS.bind hg.bytes (EvS.bind hg.parse (EvS.bind hg.ref (EvS.if_pos rfl (EvS.if_pos rfl (EvS.if_pos rfl (EvS.if_pos rfl ?_)))))))))
    simp only [beq_self_eq_true]
    exact .some_ _
end Go.Proofs.YtpnnojigdhkjaaaDoor.Pure
