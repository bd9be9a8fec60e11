/- LexKnown: these texts have just these tokens, or none, with their place: each of the eleven is computed. No condition beyond the row's own. -/
import Derived.Test.YtcabcedlnikbaaaDoorLexLaw
import Derived.Test.YtcabcedlnikbaaaDoorQ8
namespace Go.Proofs.YtcabcedlnikbaaaDoor.Pure
set_option linter.unusedSimpArgs false
set_option linter.unusedVariables false
open Go.RowKit Go.Proofs.YtcabcedlnikbaaaDoor.Q Go.Proofs.YtcabcedlnikbaaaDoor.Lx Go.Proofs.YtcabcedlnikbaaaDoorW.PrintWords Go.Proofs.YtcabcedlnikbaaaDoorW.PrintLast

theorem known_each : ∀ j : Nat, j < 11 → deadboltlaw5_LexKnown.f 40 (j : Int) = some true := by decide +kernel
theorem LexKnown : deadboltlaw5_LexKnown.Pure := by
  intro a0 _
  obtain ⟨j, hj, hj'⟩ : ∃ j : Nat, j < 11 ∧ a0 % 11 = (j : Int) := ⟨(a0 % 11).toNat, by omega, by omega⟩
  have h := known_each j hj
  refine ⟨40, ?_⟩
  have e : deadboltlaw5_within.f a0 11 = deadboltlaw5_within.f (j : Int) 11 := by
    rw [within_f a0 11 (by decide) (by decide), within_f (j : Int) 11 (by decide) (by decide), hj']
    congr 1
    omega
  unfold deadboltlaw5_LexKnown.f at h ⊢
  rw [law5_known_f] at h ⊢
  refine Eq.trans ?_ h
  exact congrArg (fun x => Option.bind x _) e
end Go.Proofs.YtcabcedlnikbaaaDoor.Pure
