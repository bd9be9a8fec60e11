/- The library's contracts that are used here, laid at this translation (by the kit's shelf, in plain words). -/
import Derived.Shelf.Small.Bits
import Derived.Shelf.Small.Strs
import Derived.Shelf.Strconv.Itoa0
import Derived.Shelf.Strings.Fields
import Derived.Shelf.LaysM
import Derived.Shelf.Strings.SplitShaped
import Derived.Shelf.Unicode.Latin
import Derived.Shelf.Unicode.Is16White
import Derived.Shelf.Unicode.IsSpaceAny
import Derived.Shelf.Unicode.Is16Any
import Derived.Shelf.Unicode.Is32Any
import Derived.Shelf.Unicode.ExclAny
import Derived.Test.YtllmjcjbpnhciaaGreatDoorProg
namespace Go.Proofs
open Go.Shelf
def Tryz.lays106_ren : Go.Shelf.Ren := ⟨fun | 106 => 43 | 213 => 71 | 265 => 101 | n => n, fun | 9 => 9 | 3 => 3 | n => n, fun | n => n⟩
theorem Tryz.lays106 : Go.Proofs.Lays.n106 Tryz.prog Tryz.lays106_ren := {
  mixed := by kernel_rfl
  f106 := Tryz.func43.trans (congrArg some (by kernel_rfl))
  f213 := Tryz.func71.trans (congrArg some (by kernel_rfl))
  f265 := Tryz.func101.trans (congrArg some (by kernel_rfl))
  t3 := Tryz.underlying3
  a3 := Tryz.isAgg3
  z3 := Tryz.sizeOf3
  v3 := Tryz.zeroValue3
  t9 := Tryz.underlying9
  a9 := Tryz.isAgg9
  z9 := Tryz.sizeOf9
  v9 := Tryz.zeroValue9 }
theorem Tryz.strings_Compare (a b : ByteArray) (w : World) :
    Calls Tryz.prog 43 #[.string a, .string b] w fun e w' => e = .returned (.int .i64 (Lib.compareBytes a.data.toList b.data.toList)) ∧ w' = w := Any.strings_Compare Tryz.lays106 a b w
def Tryz.laysM157_ren : Go.Shelf.Ren := ⟨fun | 157 => 104 | 229 => 122 | 199 => 123 | 261 => 127 | 311 => 130 | 312 => 131 | n => n, fun | 9 => 9 | 31 => 33 | 3 => 3 | 5 => 5 | 4 => 4 | 119 => 191 | 0 => 0 | 40 => 163 | 152 => 196 | 21 => 21 | 154 => 198 | 51 => 160 | 141 => 200 | 196 => 205 | 193 => 202 | 198 => 208 | 49 => 206 | 194 => 203 | 201 => 211 | 226 => 214 | 46 => 121 | 227 => 215 | n => n, fun | 0 => 2 | 6 => 3 | n => n⟩
theorem Tryz.laysM157 : Go.Proofs.LaysM.n157 Tryz.prog Tryz.laysM157_ren := {
  mixed := by kernel_rfl
  f157 := Tryz.func104.trans (congrArg some (by kernel_rfl))
  f199 := Tryz.func123.trans (congrArg some (by kernel_rfl))
  f229 := Tryz.func122.trans (congrArg some (by kernel_rfl))
  f261 := Tryz.func127.trans (congrArg some (by kernel_rfl))
  f311 := Tryz.func130.trans (congrArg some (by kernel_rfl))
  f312 := Tryz.func131.trans (congrArg some (by kernel_rfl))
  t0 := Tryz.underlying0
  a0 := Tryz.isAgg0
  z0 := Tryz.sizeOf0
  v0 := Tryz.zeroValue0
  t3 := Tryz.underlying3
  a3 := Tryz.isAgg3
  z3 := Tryz.sizeOf3
  v3 := Tryz.zeroValue3
  t4 := Tryz.underlying4
  a4 := Tryz.isAgg4
  z4 := Tryz.sizeOf4
  v4 := Tryz.zeroValue4
  t5 := Tryz.underlying5
  a5 := Tryz.isAgg5
  z5 := Tryz.sizeOf5
  v5 := Tryz.zeroValue5
  t9 := Tryz.underlying9
  a9 := Tryz.isAgg9
  z9 := Tryz.sizeOf9
  v9 := Tryz.zeroValue9
  t21 := Tryz.underlying21
  a21 := Tryz.isAgg21
  z21 := Tryz.sizeOf21
  v21 := Tryz.zeroValue21
  t31 := Tryz.underlying33
  a31 := Tryz.isAgg33
  z31 := Tryz.sizeOf33
  v31 := Tryz.zeroValue33
  t40 := Tryz.underlying163
  a40 := Tryz.isAgg163
  z40 := Tryz.sizeOf163
  v40 := Tryz.zeroValue163
  t46 := Tryz.underlying121
  a46 := Tryz.isAgg121
  z46 := Tryz.sizeOf121
  v46 := Tryz.zeroValue121
  t49 := Tryz.underlying206
  a49 := Tryz.isAgg206
  z49 := Tryz.sizeOf206
  v49 := Tryz.zeroValue206
  t51 := Tryz.underlying160
  a51 := Tryz.isAgg160
  z51 := Tryz.sizeOf160
  v51 := Tryz.zeroValue160
  t119 := Tryz.underlying191
  a119 := Tryz.isAgg191
  z119 := Tryz.sizeOf191
  t141 := Tryz.underlying200
  a141 := Tryz.isAgg200
  z141 := Tryz.sizeOf200
  v141 := Tryz.zeroValue200
  t152 := Tryz.underlying196
  a152 := Tryz.isAgg196
  z152 := Tryz.sizeOf196
  v152 := Tryz.zeroValue196
  t154 := Tryz.underlying198
  a154 := Tryz.isAgg198
  z154 := Tryz.sizeOf198
  v154 := Tryz.zeroValue198
  t193 := Tryz.underlying202
  a193 := Tryz.isAgg202
  z193 := Tryz.sizeOf202
  v193 := Tryz.zeroValue202
  t194 := Tryz.underlying203
  a194 := Tryz.isAgg203
  z194 := Tryz.sizeOf203
  v194 := Tryz.zeroValue203
  t196 := Tryz.underlying205
  a196 := Tryz.isAgg205
  z196 := Tryz.sizeOf205
  v196 := Tryz.zeroValue205
  t198 := Tryz.underlying208
  a198 := Tryz.isAgg208
  z198 := Tryz.sizeOf208
  v198 := Tryz.zeroValue208
  t201 := Tryz.underlying211
  a201 := Tryz.isAgg211
  z201 := Tryz.sizeOf211
  v201 := Tryz.zeroValue211
  t226 := Tryz.underlying214
  a226 := Tryz.isAgg214
  z226 := Tryz.sizeOf214
  v226 := Tryz.zeroValue214
  t227 := Tryz.underlying215
  a227 := Tryz.isAgg215
  z227 := Tryz.sizeOf215
  v227 := Tryz.zeroValue215
  g0 := by kernel_rfl
  g6 := by kernel_rfl
  i0 := by kernel_rfl
  i3 := by kernel_rfl
  i4 := by kernel_rfl
  i5 := by kernel_rfl
  i9 := by kernel_rfl
  i21 := by kernel_rfl
  i31 := by kernel_rfl
  i40 := by kernel_rfl
  i46 := by kernel_rfl
  i49 := by kernel_rfl
  i51 := by kernel_rfl
  i141 := by kernel_rfl
  i152 := by kernel_rfl
  i154 := by kernel_rfl
  i193 := by kernel_rfl
  i194 := by kernel_rfl
  i196 := by kernel_rfl
  i198 := by kernel_rfl
  i201 := by kernel_rfl
  i226 := by kernel_rfl
  i227 := by kernel_rfl
  m0 := by kernel_rfl
  m6 := by kernel_rfl }
theorem Tryz.strings_Fields_laid (s : ByteArray) (w : World) (hs : s.size < 4294967281) (hascii : ∀ (j : Nat) b, s.data.toList[j]? = some b → b.toNat < 128) (htab : Lib.TabIs Tryz.prog w "strings.asciiSpace" .u8 Lib.asciiSpaceTab) :
    Calls Tryz.prog 104 #[.string s] w fun e w' =>
      e = .returned (.slice (some ⟨w.heap.size, 0, none⟩) (Lib.fields s.data.toList).length (Lib.fields s.data.toList).length) ∧ w' = w.alloc (.cells ((Lib.fields s.data.toList).map fun l => Value.string ⟨l.toArray⟩).toArray 9) := Any.strings_Fields_laid Tryz.laysM157 s w hs hascii htab
end Go.Proofs
