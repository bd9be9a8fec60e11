/- The library's contracts that are used here, laid at this translation (by the kit's shelf, in plain words). -/
import Derived.Shelf.Strings.Fields
import Derived.Shelf.LaysM
import Derived.Shelf.Strings.SplitShaped
import Derived.Shelf.Unicode.Latin
import Derived.Shelf.Unicode.Is16White
import Derived.Shelf.Unicode.IsSpaceAny
import Derived.Shelf.Unicode.Is16Any
import Derived.Shelf.Unicode.Is32Any
import Derived.Shelf.Unicode.ExclAny
import Derived.Test.YtcabcedlnikbaaaDoorProg
namespace Go.Proofs
open Go.Shelf
def Tryd.laysM157_ren : Go.Shelf.Ren := ⟨fun | 157 => 22 | 229 => 25 | 199 => 26 | 261 => 28 | 311 => 29 | 312 => 30 | n => n, fun | 9 => 9 | 31 => 27 | 3 => 3 | 5 => 5 | 4 => 4 | 119 => 48 | 0 => 0 | 40 => 44 | 152 => 50 | 21 => 21 | 154 => 52 | 51 => 53 | 141 => 55 | 196 => 59 | 193 => 56 | 198 => 62 | 49 => 60 | 194 => 57 | 201 => 65 | 226 => 67 | 46 => 68 | 227 => 69 | n => n, fun | 0 => 0 | 6 => 1 | n => n⟩
theorem Tryd.laysM157 : Go.Proofs.LaysM.n157 Tryd.prog Tryd.laysM157_ren := {
  mixed := by kernel_rfl
  f157 := Tryd.func22.trans (congrArg some (by kernel_rfl))
  f199 := Tryd.func26.trans (congrArg some (by kernel_rfl))
  f229 := Tryd.func25.trans (congrArg some (by kernel_rfl))
  f261 := Tryd.func28.trans (congrArg some (by kernel_rfl))
  f311 := Tryd.func29.trans (congrArg some (by kernel_rfl))
  f312 := Tryd.func30.trans (congrArg some (by kernel_rfl))
  t0 := Tryd.underlying0
  a0 := Tryd.isAgg0
  z0 := Tryd.sizeOf0
  v0 := Tryd.zeroValue0
  t3 := Tryd.underlying3
  a3 := Tryd.isAgg3
  z3 := Tryd.sizeOf3
  v3 := Tryd.zeroValue3
  t4 := Tryd.underlying4
  a4 := Tryd.isAgg4
  z4 := Tryd.sizeOf4
  v4 := Tryd.zeroValue4
  t5 := Tryd.underlying5
  a5 := Tryd.isAgg5
  z5 := Tryd.sizeOf5
  v5 := Tryd.zeroValue5
  t9 := Tryd.underlying9
  a9 := Tryd.isAgg9
  z9 := Tryd.sizeOf9
  v9 := Tryd.zeroValue9
  t21 := Tryd.underlying21
  a21 := Tryd.isAgg21
  z21 := Tryd.sizeOf21
  v21 := Tryd.zeroValue21
  t31 := Tryd.underlying27
  a31 := Tryd.isAgg27
  z31 := Tryd.sizeOf27
  v31 := Tryd.zeroValue27
  t40 := Tryd.underlying44
  a40 := Tryd.isAgg44
  z40 := Tryd.sizeOf44
  v40 := Tryd.zeroValue44
  t46 := Tryd.underlying68
  a46 := Tryd.isAgg68
  z46 := Tryd.sizeOf68
  v46 := Tryd.zeroValue68
  t49 := Tryd.underlying60
  a49 := Tryd.isAgg60
  z49 := Tryd.sizeOf60
  v49 := Tryd.zeroValue60
  t51 := Tryd.underlying53
  a51 := Tryd.isAgg53
  z51 := Tryd.sizeOf53
  v51 := Tryd.zeroValue53
  t119 := Tryd.underlying48
  a119 := Tryd.isAgg48
  z119 := Tryd.sizeOf48
  t141 := Tryd.underlying55
  a141 := Tryd.isAgg55
  z141 := Tryd.sizeOf55
  v141 := Tryd.zeroValue55
  t152 := Tryd.underlying50
  a152 := Tryd.isAgg50
  z152 := Tryd.sizeOf50
  v152 := Tryd.zeroValue50
  t154 := Tryd.underlying52
  a154 := Tryd.isAgg52
  z154 := Tryd.sizeOf52
  v154 := Tryd.zeroValue52
  t193 := Tryd.underlying56
  a193 := Tryd.isAgg56
  z193 := Tryd.sizeOf56
  v193 := Tryd.zeroValue56
  t194 := Tryd.underlying57
  a194 := Tryd.isAgg57
  z194 := Tryd.sizeOf57
  v194 := Tryd.zeroValue57
  t196 := Tryd.underlying59
  a196 := Tryd.isAgg59
  z196 := Tryd.sizeOf59
  v196 := Tryd.zeroValue59
  t198 := Tryd.underlying62
  a198 := Tryd.isAgg62
  z198 := Tryd.sizeOf62
  v198 := Tryd.zeroValue62
  t201 := Tryd.underlying65
  a201 := Tryd.isAgg65
  z201 := Tryd.sizeOf65
  v201 := Tryd.zeroValue65
  t226 := Tryd.underlying67
  a226 := Tryd.isAgg67
  z226 := Tryd.sizeOf67
  v226 := Tryd.zeroValue67
  t227 := Tryd.underlying69
  a227 := Tryd.isAgg69
  z227 := Tryd.sizeOf69
  v227 := Tryd.zeroValue69
  g0 := by kernel_rfl
  g6 := by kernel_rfl
  i0 := by kernel_rfl
  i3 := by kernel_rfl
  i4 := by kernel_rfl
  i5 := by kernel_rfl
  i9 := by kernel_rfl
  i21 := by kernel_rfl
  i31 := by kernel_rfl
  i40 := by kernel_rfl
  i46 := by kernel_rfl
  i49 := by kernel_rfl
  i51 := by kernel_rfl
  i141 := by kernel_rfl
  i152 := by kernel_rfl
  i154 := by kernel_rfl
  i193 := by kernel_rfl
  i194 := by kernel_rfl
  i196 := by kernel_rfl
  i198 := by kernel_rfl
  i201 := by kernel_rfl
  i226 := by kernel_rfl
  i227 := by kernel_rfl
  m0 := by kernel_rfl
  m6 := by kernel_rfl }
theorem Tryd.strings_Fields_laid (s : ByteArray) (w : World) (hs : s.size < 4294967281) (hascii : ∀ (j : Nat) b, s.data.toList[j]? = some b → b.toNat < 128) (htab : Lib.TabIs Tryd.prog w "strings.asciiSpace" .u8 Lib.asciiSpaceTab) :
    Calls Tryd.prog 22 #[.string s] w fun e w' =>
      e = .returned (.slice (some ⟨w.heap.size, 0, none⟩) (Lib.fields s.data.toList).length (Lib.fields s.data.toList).length) ∧ w' = w.alloc (.cells ((Lib.fields s.data.toList).map fun l => Value.string ⟨l.toArray⟩).toArray 9) := Any.strings_Fields_laid Tryd.laysM157 s w hs hascii htab
end Go.Proofs
