/- What the listed package-level variables hold, as one fact on the world, and that it is kept by whatever is done above them. -/
import Derived.Test.YtkmafndljelopaaDoorProg
import Derived.Lib.LaidTab
import Derived.Lib.Space
import Derived.Below
import Derived.WalkSmall
import Derived.KernelRfl
import Derived.LaidLaws
import Derived.Stop.LaidErr
namespace Go.Proofs.YtkmafndljelopaaDoor.Q
open Go.RowKit
theorem V1:Tryd.prog.globalNamed "strings.asciiSpace" =some 0:=by kernel_rfl
structure GL (w:World):Prop where
 lt:0<w.heap.size
 ascii:Lib.TabIs Tryd.prog w "strings.asciiSpace" .u8 Lib.asciiSpaceTab
theorem GL.fS {w W:World} (h:GL w) (hb:Below w.heap.size w W):GL W:=
 ⟨Nat.lt_of_lt_of_le h.lt hb.size,var?_below hb V1 h.lt h.ascii⟩
theorem GL.drewN {w:World} (h:GL w) (n:Nat):GL (w.drewN n):=⟨h.lt,h.ascii⟩
theorem GL.asE {w:World} (h:Lib.TabIs Tryd.prog w "strings.asciiSpace" .u8 Lib.asciiSpaceTab):GL w:=by
 refine ⟨?_,h⟩;have hc:=h.cell V1 0 (by simp [Lib.asciiSpaceTab]);exact World.block_lt_of_cell? w _ hc
theorem aqO {lst:List (String×DataW Unit)} {W:World} (h:laidMet Tryd.prog lst W) (hl:lst.find? (fun x=>x.1== "strings.asciiSpace")=some ("strings.asciiSpace",Lib.tabData .u8 Lib.asciiSpaceTab)):GL W:=by
 induction lst with
 |nil=>simp at hl
 |cons x r ih=>
  rw [List.find?_cons] at hl;split at hl
  ·obtain rfl:=Option.some.inj hl;exact GL.asE (Lib.tabIs_of_head V1 (by kernel_rfl) Tryd.underlying126 Tryd.underlying5 (by kernel_rfl) (by kernel_rfl) h)
  ·exact ih h.tail hl
end Go.Proofs.YtkmafndljelopaaDoor.Q
