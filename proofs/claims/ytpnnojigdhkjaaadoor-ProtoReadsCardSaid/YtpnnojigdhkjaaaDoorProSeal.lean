/- deadboltlaw15.sealed in plain words. -/
import Derived.Test.YtpnnojigdhkjaaaDoorProLaw
import Derived.Test.YtpnnojigdhkjaaaDoorQ3
namespace Go.Proofs.YtpnnojigdhkjaaaDoor.Q
open Go.RowKit Go.Proofs.YtpnnojigdhkjaaaDoorW.PrintWords Go.Proofs.YtpnnojigdhkjaaaDoorW.PrintLast Go.Proofs.YtpnnojigdhkjaaaDoorW.PrintMore Go.Proofs.YtpnnojigdhkjaaaDoor.Lx
set_option linter.unusedVariables false
set_option linter.unusedSimpArgs false

theorem le32_int4 (d : Nat) : ints (le32 d) = [(d : Int) % 256, (d : Int) / 256 % 256, (d : Int) / 65536 % 256, (d : Int) / 16777216 % 256] := by
  simp [ints, le32]
theorem sealed_ev (l : List Int) (hl : Bts l) (hlen : l.length ≤ 1099511627776) : EvS (fun j => deadboltlaw15_sealed.f j l) (sealI l) := by
  unfold deadboltlaw15_sealed.f
  refine EvS.bind (ref2_Crc_ev l hl (by omega)) (EvS.bind1 rfl (EvS.if_pos (by show 0 + l.length < _; omega) (EvS.bind1 rfl (EvS.bind1 rfl (EvS.if_pos ?_ ?_)))))
  · simp only [List.length_append, List.length_cons, List.length_nil]
    omega
  · unfold sealI
    rw [le32_int4]
    exact .some_ _
end Go.Proofs.YtpnnojigdhkjaaaDoor.Q
