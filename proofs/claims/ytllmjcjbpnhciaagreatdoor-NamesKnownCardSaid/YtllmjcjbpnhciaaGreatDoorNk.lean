/- The run of NamesKnown by the machine: each of its nine cases ends with true. Conditions: each theorem bears its own. -/
import Derived.Test.YtllmjcjbpnhciaaGreatDoorProg
import Derived.KernelRfl
import Derived.Lib.Bytealg
import Derived.Lib.LaidTab
import Derived.Lib.Space
import Derived.Shelf.Strings.Fields
import Derived.Test.YtllmjcjbpnhciaaGreatDoorAmD
set_option linter.all false
set_option linter.unnecessarySimpa false
set_option linter.unusedSectionVars false
set_option linter.unusedSimpArgs false
set_option linter.unusedVariables false
namespace Go.Proofs.YtllmjcjbpnhciaaGreatDoor.Nk
open Go.Am
set_option maxRecDepth 100000
/-! what the machine is told of this program: it is found by trying, and nothing hangs on it but that a run ends -/
def modeL : List Nat := [41, 46, 60, 61, 62, 64, 65, 66, 69, 74, 75, 89, 90, 91, 106, 107, 108, 109, 110, 124]
def rowL : List (Nat × List Nat) := [(21, [131, 130, 129, 0]), (45, [131, 130, 129]), (73, [128]), (76, [67]), (77, [320]), (91, [0]), (104, [576]), (109, [320]), (111, [192]), (40, [320, 1]), (47, [320, 1]), (48, [320, 1]), (112, [320, 1])]
def deadL : List (Nat × List (Nat × List Nat)) := [(21, [(6, [21, 22, 23, 24, 6, 5, 26, 27, 28, 25, 29, 30, 31, 7, 8, 9, 32, 33, 34, 35, 36, 37, 38, 39, 40, 41, 42, 43, 44])]), (35, [(6, [18, 19, 20, 5, 21, 22, 23, 24, 25])]), (44, [(4, [11, 12, 13, 14, 4, 3, 15, 16, 17, 18, 19, 20, 21, 22, 23, 24, 25, 26, 27, 28, 29, 30, 31, 32, 33, 34, 35, 36, 37, 38, 39, 40])]), (45, [(6, [24, 25, 26, 27, 28, 29, 30, 31])]), (46, [(2, [16, 17, 18, 7, 19, 20, 21, 22, 23, 24, 25, 26, 27, 28, 29, 30, 31, 32, 33, 34, 35]), (7, [40, 41, 42, 9, 43, 44, 45, 46, 47, 48, 49, 50, 51, 52, 53, 54, 55, 56, 57, 58, 59]), (12, [64, 65, 66, 11, 67, 68, 69, 70, 71, 72, 73, 74, 75, 76, 77, 78, 79, 80, 81, 82, 83, 84, 85, 86, 87])]), (63, [(3, [10, 11, 12, 5, 13, 14, 15, 16, 17])]), (64, [(3, [15, 16, 17, 5, 18, 19, 20, 21, 22, 23, 24]), (8, [29, 30, 31, 7, 32, 33, 34, 35, 36, 37, 38]), (13, [43, 44, 45, 9, 46, 47, 48, 49, 50, 51, 52])]), (65, [(1, [9, 10, 11, 5, 12, 13, 14, 15, 16, 17, 18, 19, 20, 21, 22, 23])]), (69, [(2, [21, 22, 23, 12, 24, 25, 26, 27, 28, 29, 30, 31, 32, 33, 34, 35, 36, 37, 38, 39, 40, 41, 42, 43, 44, 45, 46, 48, 49, 50, 51, 52, 47, 53, 54, 13, 14, 55, 56, 57, 58, 59, 60, 61, 62, 63, 64, 65, 66, 67, 68, 69, 70, 71, 72, 73, 74, 75, 76, 77, 78, 79, 80, 81, 82, 83, 84, 85, 86, 87, 88, 89, 90, 91, 92, 93, 94, 95, 96, 97, 98, 99, 100, 101, 102, 103, 15, 104, 106, 107, 108, 109, 110, 111, 105, 112, 113, 16, 17, 114, 115, 116, 117, 118, 119, 120, 18, 19, 121, 122, 20, 123, 124, 125, 126, 127, 128, 129, 130, 131, 132, 133, 134, 135, 136, 137, 138, 139, 140, 141, 142, 143, 144, 145, 146, 147])]), (72, [(4, [29, 30, 31, 4, 32, 33, 34, 35])]), (73, [(5, [13, 14, 15, 16, 6, 7, 19, 20, 21, 22, 23, 24, 25, 18, 27, 28, 26, 29, 30, 31, 32, 33, 35, 36, 34, 37, 38, 39, 40, 41, 43, 44, 42, 45, 46, 47, 48, 49, 50, 51, 52, 53, 54, 55, 56, 57, 58, 59, 17])]), (76, [(3, [20, 21, 3, 22, 23, 24, 25, 26, 27, 28, 29, 30, 31, 32, 33, 34])]), (77, [(3, [12, 13, 6, 14, 15, 16, 17, 18, 19, 20, 21, 22, 23, 24, 25, 26, 27, 28, 29, 30, 31, 32, 33, 34, 35, 36, 37, 38, 39, 40, 41, 42, 43, 44, 45])]), (91, [(1, [12, 13, 14, 17, 9, 18, 19, 20, 21, 22, 23, 24, 25, 26, 27, 28, 29, 30, 31, 32, 33, 34, 37, 38, 39, 40, 41, 42, 43, 44, 45, 46, 47, 48, 49, 50, 51, 52, 35, 36, 15, 16]), (4, [18, 19, 20, 21, 22, 23, 24, 25, 26, 27, 28, 29, 30, 31, 32, 33, 34, 37, 38, 39, 40, 41, 42, 43, 44, 45, 46, 47, 48, 49, 50, 51, 52, 35, 36])]), (103, [(2, [7, 8, 9, 10, 3, 4, 11, 12, 13, 14])]), (104, [(5, [13, 14, 15, 16, 19, 20, 21, 7, 22, 23, 24, 25, 26, 27, 28, 8, 29, 30, 31, 32, 33, 34, 35, 17, 18]), (18, [42, 43, 44, 45, 46, 47, 48, 49, 50, 51, 52, 53, 54, 55]), (21, [57, 58, 59, 60, 61, 62, 63, 64, 65, 66, 67, 68, 69, 70, 71, 72, 73, 74, 75, 76, 77, 78, 79, 80, 81, 82, 83, 84, 85, 86, 87, 88, 89, 90, 91, 92, 93, 94]), (27, [80, 81, 82, 83, 84, 85, 86, 87, 88, 89, 90, 91, 92, 93])]), (109, [(7, [18, 19, 20, 21, 22, 23, 24, 25, 26, 27, 28])]), (111, [(3, [10, 11, 4, 12, 13, 14, 15, 16, 17, 18, 19, 20, 21, 22, 23, 24, 25, 26, 27, 28, 29, 30, 31, 32])]), (129, [(2, [6, 7, 8, 9, 3, 4, 10, 11, 12, 13, 14])]), (132, [(2, [9, 10, 5, 11, 12, 13, 14, 15, 16, 17, 18])])]
def planL : List (Nat × Nat × Plan) := [(21, 16, ⟨[(4, 2), (7, 2), (7, 5)], [], [(2, [3, 4, 6, 7]), (5, [6, 7])]⟩), (34, 4, ⟨[(3, 4)], [], []⟩), (44, 6, ⟨[], [], []⟩), (45, 3, ⟨[(1, 3), (2, 3), (2, 4)], [], []⟩), (46, 4, ⟨[(4, 12)], [], []⟩), (46, 9, ⟨[(4, 12)], [], []⟩), (46, 14, ⟨[(4, 14), (6, 14), (8, 14), (4, 16)], [], []⟩), (69, 17, ⟨[], [], []⟩), (74, 2, ⟨[(2, 5), (4, 5), (4, 6)], [], []⟩), (75, 5, ⟨[(4, 6), (8, 6), (4, 10)], [], [(6, [7, 8])]⟩), (75, 8, ⟨[(4, 6), (8, 6), (4, 10)], [], [(6, [7, 8])]⟩), (75, 12, ⟨[(4, 9), (7, 9), (4, 11)], [], []⟩), (76, 1, ⟨[(4, 2), (7, 2), (7, 5)], [], [(2, [3, 4, 6, 7]), (5, [6, 7, 9]), (8, [9])]⟩), (76, 5, ⟨[(1, 9)], [], []⟩), (77, 6, ⟨[(13, 10), (15, 10)], [], [(10, [11, 12, 13, 14, 15, 16])]⟩), (91, 4, ⟨[], [], []⟩), (91, 6, ⟨[], [], []⟩), (111, 5, ⟨[(12, 9), (14, 9)], [], [(9, [10, 11, 12, 13, 14])]⟩), (124, 4, ⟨[(4, 2), (1, 6), (4, 6)], [(6, 2)], [(2, [3, 4, 6])]⟩)]

def HH : Hints where
  mode f := if inN f modeL then 1 else 0
  rows f k := match rowL.find? (fun e => Nat.beq e.1 f) with
    | some (_, l) => inN k l
    | none => false
  dead f id := match deadL.find? (fun e => Nat.beq e.1 f) with
    | some (_, l) => match l.find? (fun e => Nat.beq e.1 id) with
      | some (_, ts) => ts
      | none => []
    | none => []
def plan (f : FuncId) (id : Nat) : Option Plan := match planL.find? (fun e => Nat.beq e.1 f && Nat.beq e.2.1 id) with
  | some (_, _, p) => some p
  | none => none
/-! the library's functions that are told by hand -/
/-- slices.Clone, of no element -/
def pClone : CallFn := fun _ args os _ => match args with
  | [.p (.vals _ [])] => some (.ret (.fresh 0 []) os)
  | [.fresh 0 []] => some (.ret (.fresh 0 []) os)
  | [.row _ _ 0] => some (.ret (.fresh 0 []) os)
  | _ => none
/-- slices.Clip -/
def pClip : CallFn := fun _ args os _ => match args with
  | [.p (.vals sz xs)] => some (.ret (.p (.vals sz xs)) os)
  | _ => none
/-- strings.Fields, of ASCII -/
def pFields : CallFn := fun _ args os _ => match args with
  | [.p (.at (.string b))] => if Nat.blt b.size 4294967281 && b.data.toList.all (fun c => Nat.blt c.toNat 128) then
      some (.ret (.p (.vals 1 ((Lib.fields b.data.toList).map fun l => [.at (.string ⟨l.toArray⟩)]))) os) else none
  | _ => none
/-- strings.Compare -/
def pCompare : CallFn := fun _ args os _ => match args with
  | [.p (.at (.string a)), .p (.at (.string b))] => some (.ret (.p (.at (.int .i64 (Lib.compareBytes a.data.toList b.data.toList)))) os)
  | _ => none
/-- errors.Is, of a fault, and of 'OK' -/
def pIs : CallFn := fun _ args os _ => match args with
  | [.ifc 107 (.agg [.p (.at (.int .i64 _)), .p (.at (.int .i64 n))]), .ifc 37 (.p (.at (.int .i64 0)))] => some (.ret (bool (n == 0)) os)
  | _ => none
/-- errors.As, of a fault -/
def pAs : CallFn := fun _ args os _ => match args with
  | [.ifc 107 (.agg [.p (.at (.int .i64 a)), .p (.at (.int .i64 n))]), .ifc 110 (.ptr k 0)] => match Am.getObj os k with
    | some (Am.Obj.cells [_, _]) => some (.ret (bool true) (Am.setObj os k (Am.Obj.cells [.p (.at (.int .i64 a)), .p (.at (.int .i64 n))])))
    | _ => none
  | _ => none
/-- the number that is asked for, as one of nine -/
def pWithin (k : Nat) : CallFn := fun _ args os _ => match args with
  | [.p (.sym 0), .p (.at (.int .i64 9))] => some (.ret (.p (.at (.int .i64 (Int.ofNat k)))) os)
  | _ => none
def prim (k : Nat) (f : FuncId) : Option CallFn :=
  if inN f [40, 47, 48, 112] then some pClone else if Nat.beq f 125 then some pClip else if Nat.beq f 104 then some pFields else if Nat.beq f 43 then some pCompare else if Nat.beq f 60 then some pIs else if Nat.beq f 61 then some pAs else if Nat.beq f 13 then some (pWithin k) else none
noncomputable def mach (k : Nat) : CallFn := evF Tryz.prog HH (stepO Tryz.prog HH) (drOf Tryz.prog HH plan (stepO Tryz.prog HH)) (prim k) 100000
def okR : Option Res → Bool
  | some (.ret (.p (.at (.bool true))) _) => true
  | _ => false

theorem runs : ((List.range 9).all fun k => okR (mach k 6 [.p (.sym 0)] [] 0)) = true := by decide +kernel
theorem plans : (Tryz.prog.funcs.toList.zipIdx.all fun (fn, f) => match fn.body with | some c => plansOK plan f c | none => true) = true := by decide +kernel
theorem names : (Tryz.prog.funcs.toList.all fun fn => fn.name != "runtime.NumGoroutine") = true := by decide +kernel
end Go.Proofs.YtllmjcjbpnhciaaGreatDoor.Nk
