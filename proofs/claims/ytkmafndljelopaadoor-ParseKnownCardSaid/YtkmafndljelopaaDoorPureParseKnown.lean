/- ParseKnown: these texts are refused at just these places, or are just these programs: each of the twenty-two is computed. No condition beyond the row's own. -/
import Derived.Test.YtkmafndljelopaaDoorText6
import Derived.Test.YtkmafndljelopaaDoorQ16
namespace Go.Proofs.YtkmafndljelopaaDoor.Pure
set_option linter.unusedSimpArgs false
set_option linter.unusedVariables false
open Go.RowKit Go.Proofs.YtkmafndljelopaaDoor.Q Go.Proofs.YtkmafndljelopaaDoor.Lx Go.Proofs.YtkmafndljelopaaDoorW.PrintWords Go.Proofs.YtkmafndljelopaaDoorW.PrintLast

theorem known_each : ∀ j : Nat, j < 22 → deadboltlaw6_ParseKnown.f (j : Int) = some true := by decide +kernel
theorem known6 : deadboltlaw6_known.f = some true := by decide +kernel
theorem ParseKnown : deadboltlaw6_ParseKnown.Pure := by
  intro a0 _
  obtain ⟨j, hj, hj'⟩ : ∃ j : Nat, j < 22 ∧ a0 % 22 = (j : Int) := ⟨(a0 % 22).toNat, by omega, by omega⟩
  have h := known_each j hj
  have e : deadboltlaw6_within.f a0 22 = deadboltlaw6_within.f (j : Int) 22 := by
    rw [within6_f a0 22 (by decide) (by decide), within6_f (j : Int) 22 (by decide) (by decide), hj']
    congr 1
    omega
  unfold deadboltlaw6_ParseKnown.f at h ⊢
  rw [known6] at h ⊢
  refine Eq.trans ?_ h
  exact congrArg (fun x => Option.bind x _) e
end Go.Proofs.YtkmafndljelopaaDoor.Pure
