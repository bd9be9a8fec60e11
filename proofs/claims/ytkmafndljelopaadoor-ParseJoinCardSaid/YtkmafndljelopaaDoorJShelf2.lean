/- The library's contracts that are used here, laid at this translation (by the kit's shelf, in plain words). -/
import Derived.Shelf.Strings.Builder1
import Derived.Shelf.Strings.Builder2
import Derived.Shelf.Strings.OnBuilder
import Derived.Shelf.Strings.BuilderF
import Derived.Shelf.Strings.BuilderK
import Derived.Shelf.Strings.Builder2Cap
import Derived.Shelf.Strings.Fields
import Derived.Shelf.LaysM
import Derived.Shelf.Strings.SplitShaped
import Derived.Shelf.Unicode.Latin
import Derived.Shelf.Unicode.Is16White
import Derived.Shelf.Unicode.IsSpaceAny
import Derived.Shelf.Unicode.Is16WhiteD
import Derived.Shelf.Unicode.IsSpaceAnyD
import Derived.Shelf.Strings.FieldsAny
import Derived.Shelf.Strings.FieldsFuncAny
import Derived.Shelf.Unicode.Is16Any
import Derived.Shelf.Unicode.Is32Any
import Derived.Shelf.Unicode.ExclAny
import Derived.Shelf.Strings.FieldsFuncGrows
import Derived.Shelf.Strings.BuilderCap
import Derived.Shelf.Slices.Turned
import Derived.Test.YtkmafndljelopaaDoorProg
namespace Go.Proofs
open Go.Shelf Go.RowKit
def Tryd.akB:Go.Shelf.Ren:=⟨fun|169=>48|n=>n,fun|70=>88|9=>9|0=>0|72=>90|37=>32|127=>117|3=>3|5=>5|n=>n,fun|n=>n⟩
theorem Tryd.lays169:Go.Proofs.Lays.n169 Tryd.prog Tryd.akB:= {
 mixed:=by kernel_rfl
 f169:=Tryd.func48.trans (congrArg some (by kernel_rfl))
 t0:=Tryd.underlying0
 a0:=Tryd.isAgg0
 z0:=Tryd.sizeOf0
 v0:=Tryd.zeroValue0
 t3:=Tryd.underlying3
 a3:=Tryd.isAgg3
 z3:=Tryd.sizeOf3
 v3:=Tryd.zeroValue3
 t9:=Tryd.underlying9
 a9:=Tryd.isAgg9
 z9:=Tryd.sizeOf9
 v9:=Tryd.zeroValue9
 t37:=Tryd.underlying32
 a37:=Tryd.isAgg32
 z37:=Tryd.sizeOf32
 v37:=Tryd.zeroValue32
 t70:=Tryd.underlying88
 a70:=Tryd.isAgg88
 z70:=Tryd.sizeOf88
 v70:=Tryd.zeroValue88
 t72:=Tryd.underlying90
 a72:=Tryd.isAgg90
 z72:=Tryd.sizeOf90
 v72:=Tryd.zeroValue90
 t127:=Tryd.underlying117
 a127:=Tryd.isAgg117
 z127:=Tryd.sizeOf117
 v127:=Tryd.zeroValue117 }
theorem Tryd.ao3:Builder.Extra Tryd.prog Tryd.akB:= {
 sizeBuilder:=by kernel_rfl
 liesBuilder:=by kernel_rfl
 t5:=Tryd.underlying5
 a5:=Tryd.isAgg5
 z5:=Tryd.sizeOf5
 v5:=Tryd.zeroValue5
 infoByte:=by kernel_rfl
 cellsByte:=by kernel_rfl
 sizeByte:=by kernel_rfl
 neB5:=by decide }
theorem Tryd.Builder_String_any (B b:Nat) (l:List UInt8) (w:World) (h:Lib.IsBuilder 90 5 B b (Lib.byteCells l) w) (hBw:B≤w.heap.size):
  Calls Tryd.prog 48 #[.pointer (some ⟨b,0,none⟩)] w fun e w'=>e= .returned (.string ⟨l.toArray⟩)∧Below B w w':=Any.Builder_String_any Tryd.lays169 Tryd.ao3 B b l w h hBw
def Tryd.adY:Go.Shelf.Ren:=⟨fun|156=>47|165=>76|166=>46|169=>48|240=>75|241=>87|276=>86|277=>92|n=>n,fun|31=>35|9=>9|3=>3|4=>4|0=>0|20=>20|72=>90|76=>93|70=>88|37=>32|75=>92|127=>117|164=>121|5=>5|80=>55|n=>n,fun|n=>n⟩
theorem Tryd.lays156:Go.Proofs.Lays.n156 Tryd.prog Tryd.adY:= {
 mixed:=by kernel_rfl
 f156:=Tryd.func47.trans (congrArg some (by kernel_rfl))
 f165:=Tryd.func76.trans (congrArg some (by kernel_rfl))
 f166:=Tryd.func46.trans (congrArg some (by kernel_rfl))
 f169:=Tryd.func48.trans (congrArg some (by kernel_rfl))
 f240:=Tryd.func75.trans (congrArg some (by kernel_rfl))
 f241:=Tryd.func87.trans (congrArg some (by kernel_rfl))
 f276:=Tryd.func86.trans (congrArg some (by kernel_rfl))
 f277:=Tryd.func92.trans (congrArg some (by kernel_rfl))
 t0:=Tryd.underlying0
 a0:=Tryd.isAgg0
 z0:=Tryd.sizeOf0
 v0:=Tryd.zeroValue0
 t3:=Tryd.underlying3
 a3:=Tryd.isAgg3
 z3:=Tryd.sizeOf3
 v3:=Tryd.zeroValue3
 t4:=Tryd.underlying4
 a4:=Tryd.isAgg4
 z4:=Tryd.sizeOf4
 v4:=Tryd.zeroValue4
 t9:=Tryd.underlying9
 a9:=Tryd.isAgg9
 z9:=Tryd.sizeOf9
 v9:=Tryd.zeroValue9
 t20:=Tryd.underlying20
 a20:=Tryd.isAgg20
 z20:=Tryd.sizeOf20
 v20:=Tryd.zeroValue20
 t31:=Tryd.underlying35
 a31:=Tryd.isAgg35
 z31:=Tryd.sizeOf35
 v31:=Tryd.zeroValue35
 t37:=Tryd.underlying32
 a37:=Tryd.isAgg32
 z37:=Tryd.sizeOf32
 v37:=Tryd.zeroValue32
 t70:=Tryd.underlying88
 a70:=Tryd.isAgg88
 z70:=Tryd.sizeOf88
 v70:=Tryd.zeroValue88
 t72:=Tryd.underlying90
 a72:=Tryd.isAgg90
 z72:=Tryd.sizeOf90
 v72:=Tryd.zeroValue90
 t75:=Tryd.underlying92
 a75:=Tryd.isAgg92
 z75:=Tryd.sizeOf92
 v75:=Tryd.zeroValue92
 t76:=Tryd.underlying93
 a76:=Tryd.isAgg93
 z76:=Tryd.sizeOf93
 v76:=Tryd.zeroValue93
 t127:=Tryd.underlying117
 a127:=Tryd.isAgg117
 z127:=Tryd.sizeOf117
 v127:=Tryd.zeroValue117
 t164:=Tryd.underlying121
 a164:=Tryd.isAgg121
 z164:=Tryd.sizeOf121
 v164:=Tryd.zeroValue121 }
theorem Tryd.ahS:Builder.Extra Tryd.prog Tryd.adY:= {
 sizeBuilder:=by kernel_rfl
 liesBuilder:=by kernel_rfl
 t5:=Tryd.underlying5
 a5:=Tryd.isAgg5
 z5:=Tryd.sizeOf5
 v5:=Tryd.zeroValue5
 infoByte:=by kernel_rfl
 cellsByte:=by kernel_rfl
 sizeByte:=by kernel_rfl
 neB5:=by decide }
theorem Tryd.strings_Join_none (a:Option Addr) (c:Nat) (sep:ByteArray) (w:World):
  Calls Tryd.prog 47 #[.slice a 0 c,.string sep] w fun e w'=>e= .returned (.string ⟨#[]⟩)∧w'=w:=Any.strings_Join_none Tryd.lays156 Tryd.ahS a c sep w
theorem Tryd.strings_Join (bk o c:Nat) (xs:List ByteArray) (sep:ByteArray) (w:World) (hcells: ∀ (j:Nat) x,xs[j]? =some x→w.cell? ⟨bk,o+j,none⟩=some (.string x)) (hbk:bk<w.heap.size) (hN:xs.length≤140737488355328) (hcap:xs.length≤c) (hlen:(Lib.join (xs.map (·.data.toList)) sep.data.toList).length≤140737488355328):
  Calls Tryd.prog 47 #[.slice (some ⟨bk,o,none⟩) xs.length c,.string sep] w fun e w'=>e= .returned (.string ⟨(Lib.join (xs.map (·.data.toList)) sep.data.toList).toArray⟩)∧Below w.heap.size w w':=Any.strings_Join Tryd.lays156 Tryd.ahS bk o c xs sep w hcells hbk hN hcap hlen
end Go.Proofs
