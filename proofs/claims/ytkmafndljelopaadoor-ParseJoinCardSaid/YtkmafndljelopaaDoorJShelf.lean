/- The library's contracts that are used here, laid at this translation (by the kit's shelf, in plain words). -/
import Derived.Shelf.Strings.Builder1
import Derived.Shelf.Strings.Builder2
import Derived.Shelf.Strings.OnBuilder
import Derived.Shelf.Strings.BuilderF
import Derived.Shelf.Strings.BuilderK
import Derived.Shelf.Strings.Builder2Cap
import Derived.Shelf.Strings.Fields
import Derived.Shelf.LaysM
import Derived.Shelf.Strings.SplitShaped
import Derived.Shelf.Unicode.Latin
import Derived.Shelf.Unicode.Is16White
import Derived.Shelf.Unicode.IsSpaceAny
import Derived.Shelf.Unicode.Is16WhiteD
import Derived.Shelf.Unicode.IsSpaceAnyD
import Derived.Shelf.Strings.FieldsAny
import Derived.Shelf.Strings.FieldsFuncAny
import Derived.Shelf.Unicode.Is16Any
import Derived.Shelf.Unicode.Is32Any
import Derived.Shelf.Unicode.ExclAny
import Derived.Shelf.Strings.FieldsFuncGrows
import Derived.Shelf.Strings.BuilderCap
import Derived.Shelf.Slices.Turned
import Derived.Test.YtkmafndljelopaaDoorProg
namespace Go.Proofs
open Go.Shelf
def Tryd.asS:Go.Shelf.Ren:=⟨fun|157=>89|229=>93|199=>94|261=>96|311=>97|312=>98|n=>n,fun|9=>9|31=>35|3=>3|5=>5|4=>4|119=>126|0=>0|40=>106|152=>129|21=>21|154=>131|51=>132|141=>134|196=>138|193=>135|198=>141|49=>139|194=>136|201=>144|226=>146|46=>147|227=>148|n=>n,fun|0=>0|6=>2|n=>n⟩
theorem Tryd.laysM157:Go.Proofs.LaysM.n157 Tryd.prog Tryd.asS:= {
 mixed:=by kernel_rfl
 f157:=Tryd.func89.trans (congrArg some (by kernel_rfl))
 f199:=Tryd.func94.trans (congrArg some (by kernel_rfl))
 f229:=Tryd.func93.trans (congrArg some (by kernel_rfl))
 f261:=Tryd.func96.trans (congrArg some (by kernel_rfl))
 f311:=Tryd.func97.trans (congrArg some (by kernel_rfl))
 f312:=Tryd.func98.trans (congrArg some (by kernel_rfl))
 t0:=Tryd.underlying0
 a0:=Tryd.isAgg0
 z0:=Tryd.sizeOf0
 v0:=Tryd.zeroValue0
 t3:=Tryd.underlying3
 a3:=Tryd.isAgg3
 z3:=Tryd.sizeOf3
 v3:=Tryd.zeroValue3
 t4:=Tryd.underlying4
 a4:=Tryd.isAgg4
 z4:=Tryd.sizeOf4
 v4:=Tryd.zeroValue4
 t5:=Tryd.underlying5
 a5:=Tryd.isAgg5
 z5:=Tryd.sizeOf5
 v5:=Tryd.zeroValue5
 t9:=Tryd.underlying9
 a9:=Tryd.isAgg9
 z9:=Tryd.sizeOf9
 v9:=Tryd.zeroValue9
 t21:=Tryd.underlying21
 a21:=Tryd.isAgg21
 z21:=Tryd.sizeOf21
 v21:=Tryd.zeroValue21
 t31:=Tryd.underlying35
 a31:=Tryd.isAgg35
 z31:=Tryd.sizeOf35
 v31:=Tryd.zeroValue35
 t40:=Tryd.underlying106
 a40:=Tryd.isAgg106
 z40:=Tryd.sizeOf106
 v40:=Tryd.zeroValue106
 t46:=Tryd.underlying147
 a46:=Tryd.isAgg147
 z46:=Tryd.sizeOf147
 v46:=Tryd.zeroValue147
 t49:=Tryd.underlying139
 a49:=Tryd.isAgg139
 z49:=Tryd.sizeOf139
 v49:=Tryd.zeroValue139
 t51:=Tryd.underlying132
 a51:=Tryd.isAgg132
 z51:=Tryd.sizeOf132
 v51:=Tryd.zeroValue132
 t119:=Tryd.underlying126
 a119:=Tryd.isAgg126
 z119:=Tryd.sizeOf126
 t141:=Tryd.underlying134
 a141:=Tryd.isAgg134
 z141:=Tryd.sizeOf134
 v141:=Tryd.zeroValue134
 t152:=Tryd.underlying129
 a152:=Tryd.isAgg129
 z152:=Tryd.sizeOf129
 v152:=Tryd.zeroValue129
 t154:=Tryd.underlying131
 a154:=Tryd.isAgg131
 z154:=Tryd.sizeOf131
 v154:=Tryd.zeroValue131
 t193:=Tryd.underlying135
 a193:=Tryd.isAgg135
 z193:=Tryd.sizeOf135
 v193:=Tryd.zeroValue135
 t194:=Tryd.underlying136
 a194:=Tryd.isAgg136
 z194:=Tryd.sizeOf136
 v194:=Tryd.zeroValue136
 t196:=Tryd.underlying138
 a196:=Tryd.isAgg138
 z196:=Tryd.sizeOf138
 v196:=Tryd.zeroValue138
 t198:=Tryd.underlying141
 a198:=Tryd.isAgg141
 z198:=Tryd.sizeOf141
 v198:=Tryd.zeroValue141
 t201:=Tryd.underlying144
 a201:=Tryd.isAgg144
 z201:=Tryd.sizeOf144
 v201:=Tryd.zeroValue144
 t226:=Tryd.underlying146
 a226:=Tryd.isAgg146
 z226:=Tryd.sizeOf146
 v226:=Tryd.zeroValue146
 t227:=Tryd.underlying148
 a227:=Tryd.isAgg148
 z227:=Tryd.sizeOf148
 v227:=Tryd.zeroValue148
 g0:=by kernel_rfl
 g6:=by kernel_rfl
 i0:=by kernel_rfl
 i3:=by kernel_rfl
 i4:=by kernel_rfl
 i5:=by kernel_rfl
 i9:=by kernel_rfl
 i21:=by kernel_rfl
 i31:=by kernel_rfl
 i40:=by kernel_rfl
 i46:=by kernel_rfl
 i49:=by kernel_rfl
 i51:=by kernel_rfl
 i141:=by kernel_rfl
 i152:=by kernel_rfl
 i154:=by kernel_rfl
 i193:=by kernel_rfl
 i194:=by kernel_rfl
 i196:=by kernel_rfl
 i198:=by kernel_rfl
 i201:=by kernel_rfl
 i226:=by kernel_rfl
 i227:=by kernel_rfl
 m0:=by kernel_rfl
 m6:=by kernel_rfl }
theorem Tryd.strings_Fields_laid (s:ByteArray) (w:World) (hs:s.size<4294967281) (hascii: ∀ (j:Nat) b,s.data.toList[j]? =some b→b.toNat<128) (htab:Lib.TabIs Tryd.prog w "strings.asciiSpace" .u8 Lib.asciiSpaceTab):
  Calls Tryd.prog 89 #[.string s] w fun e w'=>
   e= .returned (.slice (some ⟨w.heap.size,0,none⟩) (Lib.fields s.data.toList).length (Lib.fields s.data.toList).length)∧w'=w.alloc (.cells ((Lib.fields s.data.toList).map fun l=>Value.string ⟨l.toArray⟩).toArray 9):=Any.strings_Fields_laid Tryd.laysM157 s w hs hascii htab
end Go.Proofs
