/- Words beside the print's own: a string appended to a row of bytes, as one step of a region that draws its order. -/
import Derived.Test.YtkmafndljelopaaDoorJW
namespace Go.Proofs.YtkmafndljelopaaDoorW.PrintWords
open Go.RowKit
section
variable {P:Program} {ops:Array Oper} {o:Oper} {a:Act} {Q:Exit→Act→World→Prop} {Kc:Act→World→Prop}
end
theorem q1_ {α:Type} {l:List α} {i:Nat} {a:α} :l.toArray.setIfInBounds i a=(l.set i a).toArray:=by simp
theorem q2_ {α:Type} {x:α} {xs:List α} {a:α} :(x::xs).set 0 a=a::xs:=rfl
theorem q3_ {α:Type} {x:α} {xs:List α} {n:Nat} {a:α} :(x::xs).set (n+1) a=x::xs.set n a:=rfl
end Go.Proofs.YtkmafndljelopaaDoorW.PrintWords
