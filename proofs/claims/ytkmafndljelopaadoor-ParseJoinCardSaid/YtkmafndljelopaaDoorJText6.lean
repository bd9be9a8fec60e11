/- chapter 6's within, in plain words -/
import Derived.Test.YtkmafndljelopaaDoorJEv
import Derived.Test.YtkmafndljelopaaDoorJQ1
namespace Go.Proofs.YtkmafndljelopaaDoor.Q
open Go.RowKit Go.Proofs.YtkmafndljelopaaDoorW.PrintWords Go.Proofs.YtkmafndljelopaaDoorW.PrintLast Go.Proofs.YtkmafndljelopaaDoorW.PrintMore Go.Proofs.YtkmafndljelopaaDoor.Lx
theorem xQ (a n:Int) (hn:0<n) (hn':n≤9223372036854775807):i6.f a n=some (a % n):=by
 unfold i6.f
 rw [if_neg (by omega)];have h1:=Int.tmod_lt_of_pos a hn;have h2: -n<Int.tmod a n:=by
  have:=Int.tmod_lt_of_pos (-a) hn;rw [Int.neg_tmod] at this;omega
 have h3:a % n=Int.tmod a n % n:=by
  conv=>lhs;rw [← Int.tmod_add_mul_tdiv a n]
  rw [Int.add_mul_emod_self_left]
 by_cases h:Int.tmod a n<0
 ·rw [if_pos h,w64 (by omega),h3,← Int.add_emod_right,Int.emod_eq_of_lt (by omega) (by omega)]
 ·rw [if_neg h,h3,Int.emod_eq_of_lt (by omega) h1]
end Go.Proofs.YtkmafndljelopaaDoor.Q
