/- The library's contracts that are used here, laid at this translation (by the kit's shelf, in plain words). -/
import Derived.Shelf.Strings.Fields
import Derived.Shelf.LaysM
import Derived.Shelf.Strings.SplitShaped
import Derived.Shelf.Unicode.Latin
import Derived.Shelf.Unicode.Is16White
import Derived.Shelf.Unicode.IsSpaceAny
import Derived.Shelf.Unicode.Is16WhiteD
import Derived.Shelf.Unicode.IsSpaceAnyD
import Derived.Shelf.Strings.FieldsAny
import Derived.Shelf.Strings.FieldsFuncAny
import Derived.Shelf.Unicode.Is16Any
import Derived.Shelf.Unicode.Is32Any
import Derived.Shelf.Unicode.ExclAny
import Derived.Shelf.Strings.FieldsFuncGrows
import Derived.Test.YtpnnojigdhkjaaaDoorProg
namespace Go.Proofs
open Go.Shelf
def Tryd.laysM157_ren : Go.Shelf.Ren := ⟨fun | 157 => 33 | 229 => 35 | 199 => 36 | 261 => 37 | 311 => 38 | 312 => 39 | n => n, fun | 9 => 9 | 31 => 42 | 3 => 3 | 5 => 5 | 4 => 4 | 119 => 71 | 0 => 0 | 40 => 68 | 152 => 73 | 21 => 21 | 154 => 75 | 51 => 49 | 141 => 77 | 196 => 81 | 193 => 78 | 198 => 84 | 49 => 82 | 194 => 79 | 201 => 87 | 226 => 89 | 46 => 47 | 227 => 90 | n => n, fun | 0 => 0 | 6 => 1 | n => n⟩
theorem Tryd.laysM157 : Go.Proofs.LaysM.n157 Tryd.prog Tryd.laysM157_ren := {
  mixed := by kernel_rfl
  f157 := Tryd.func33.trans (congrArg some (by kernel_rfl))
  f199 := Tryd.func36.trans (congrArg some (by kernel_rfl))
  f229 := Tryd.func35.trans (congrArg some (by kernel_rfl))
  f261 := Tryd.func37.trans (congrArg some (by kernel_rfl))
  f311 := Tryd.func38.trans (congrArg some (by kernel_rfl))
  f312 := Tryd.func39.trans (congrArg some (by kernel_rfl))
  t0 := Tryd.underlying0
  a0 := Tryd.isAgg0
  z0 := Tryd.sizeOf0
  v0 := Tryd.zeroValue0
  t3 := Tryd.underlying3
  a3 := Tryd.isAgg3
  z3 := Tryd.sizeOf3
  v3 := Tryd.zeroValue3
  t4 := Tryd.underlying4
  a4 := Tryd.isAgg4
  z4 := Tryd.sizeOf4
  v4 := Tryd.zeroValue4
  t5 := Tryd.underlying5
  a5 := Tryd.isAgg5
  z5 := Tryd.sizeOf5
  v5 := Tryd.zeroValue5
  t9 := Tryd.underlying9
  a9 := Tryd.isAgg9
  z9 := Tryd.sizeOf9
  v9 := Tryd.zeroValue9
  t21 := Tryd.underlying21
  a21 := Tryd.isAgg21
  z21 := Tryd.sizeOf21
  v21 := Tryd.zeroValue21
  t31 := Tryd.underlying42
  a31 := Tryd.isAgg42
  z31 := Tryd.sizeOf42
  v31 := Tryd.zeroValue42
  t40 := Tryd.underlying68
  a40 := Tryd.isAgg68
  z40 := Tryd.sizeOf68
  v40 := Tryd.zeroValue68
  t46 := Tryd.underlying47
  a46 := Tryd.isAgg47
  z46 := Tryd.sizeOf47
  v46 := Tryd.zeroValue47
  t49 := Tryd.underlying82
  a49 := Tryd.isAgg82
  z49 := Tryd.sizeOf82
  v49 := Tryd.zeroValue82
  t51 := Tryd.underlying49
  a51 := Tryd.isAgg49
  z51 := Tryd.sizeOf49
  v51 := Tryd.zeroValue49
  t119 := Tryd.underlying71
  a119 := Tryd.isAgg71
  z119 := Tryd.sizeOf71
  t141 := Tryd.underlying77
  a141 := Tryd.isAgg77
  z141 := Tryd.sizeOf77
  v141 := Tryd.zeroValue77
  t152 := Tryd.underlying73
  a152 := Tryd.isAgg73
  z152 := Tryd.sizeOf73
  v152 := Tryd.zeroValue73
  t154 := Tryd.underlying75
  a154 := Tryd.isAgg75
  z154 := Tryd.sizeOf75
  v154 := Tryd.zeroValue75
  t193 := Tryd.underlying78
  a193 := Tryd.isAgg78
  z193 := Tryd.sizeOf78
  v193 := Tryd.zeroValue78
  t194 := Tryd.underlying79
  a194 := Tryd.isAgg79
  z194 := Tryd.sizeOf79
  v194 := Tryd.zeroValue79
  t196 := Tryd.underlying81
  a196 := Tryd.isAgg81
  z196 := Tryd.sizeOf81
  v196 := Tryd.zeroValue81
  t198 := Tryd.underlying84
  a198 := Tryd.isAgg84
  z198 := Tryd.sizeOf84
  v198 := Tryd.zeroValue84
  t201 := Tryd.underlying87
  a201 := Tryd.isAgg87
  z201 := Tryd.sizeOf87
  v201 := Tryd.zeroValue87
  t226 := Tryd.underlying89
  a226 := Tryd.isAgg89
  z226 := Tryd.sizeOf89
  v226 := Tryd.zeroValue89
  t227 := Tryd.underlying90
  a227 := Tryd.isAgg90
  z227 := Tryd.sizeOf90
  v227 := Tryd.zeroValue90
  g0 := by kernel_rfl
  g6 := by kernel_rfl
  i0 := by kernel_rfl
  i3 := by kernel_rfl
  i4 := by kernel_rfl
  i5 := by kernel_rfl
  i9 := by kernel_rfl
  i21 := by kernel_rfl
  i31 := by kernel_rfl
  i40 := by kernel_rfl
  i46 := by kernel_rfl
  i49 := by kernel_rfl
  i51 := by kernel_rfl
  i141 := by kernel_rfl
  i152 := by kernel_rfl
  i154 := by kernel_rfl
  i193 := by kernel_rfl
  i194 := by kernel_rfl
  i196 := by kernel_rfl
  i198 := by kernel_rfl
  i201 := by kernel_rfl
  i226 := by kernel_rfl
  i227 := by kernel_rfl
  m0 := by kernel_rfl
  m6 := by kernel_rfl }
theorem Tryd.strings_Fields_laid (s : ByteArray) (w : World) (hs : s.size < 4294967281) (hascii : ∀ (j : Nat) b, s.data.toList[j]? = some b → b.toNat < 128) (htab : Lib.TabIs Tryd.prog w "strings.asciiSpace" .u8 Lib.asciiSpaceTab) :
    Calls Tryd.prog 33 #[.string s] w fun e w' =>
      e = .returned (.slice (some ⟨w.heap.size, 0, none⟩) (Lib.fields s.data.toList).length (Lib.fields s.data.toList).length) ∧ w' = w.alloc (.cells ((Lib.fields s.data.toList).map fun l => Value.string ⟨l.toArray⟩).toArray 9) := Any.strings_Fields_laid Tryd.laysM157 s w hs hascii htab
end Go.Proofs
