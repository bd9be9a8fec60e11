/- Functions of the library, each walked: what they answer. Conditions: each theorem bears its own. -/
import Derived.Test.YtllmjcjbpnhciaaGreatDoorProg
import Derived.WalkKit
import Derived.Lib.Walk
import Derived.Lib.SliceRun
import Derived.Lib.LazyBuf
import Derived.LaidEql
import Derived.Stop.Asserts
import Derived.RowKitTokens
set_option linter.all false
set_option linter.unnecessarySimpa false
set_option linter.unusedSectionVars false
set_option linter.unusedSimpArgs false
set_option linter.unusedVariables false
namespace Go.Proofs.YtllmjcjbpnhciaaGreatDoor.T
open Go.RowKit Go.Lib
set_option maxHeartbeats 2000000 in
set_option maxRecDepth 100000 in
theorem clone40 (a : Option Addr) (c : Nat) (w : World) : Calls Tryz.prog 40 #[.slice a 0 c] w fun e w' => ∃ a', e = .returned (.slice a' 0 0) ∧ Below w.heap.size w w' := by
  have q : ∀ (w : World) (a : Option Addr) (n c : Nat), (binOp .eql 43 (.slice a n c) (.slice none 0 0)).run Tryz.prog w = .ok (.bool a.isNone) w := fun w a n c => Lib.run_eql_slice_nil w _ 46 a n c 0 0 (by kernel_rfl)
  go_enter Tryz.func40, Tryz.ntmps40
  cases a with
  | none =>
    go_wp2
    go_ret
    exact ⟨_, rfl, Below.refl _ _⟩
  | some a =>
    go_wp2
    go_ret
    exact ⟨_, rfl, (Below.refl _ _).alloc (Nat.le_refl _) _⟩
set_option maxHeartbeats 2000000 in
set_option maxRecDepth 100000 in
theorem clone47 (a : Option Addr) (c : Nat) (w : World) : Calls Tryz.prog 47 #[.slice a 0 c] w fun e w' => ∃ a', e = .returned (.slice a' 0 0) ∧ Below w.heap.size w w' := by
  have q : ∀ (w : World) (a : Option Addr) (n c : Nat), (binOp .eql 27 (.slice a n c) (.slice none 0 0)).run Tryz.prog w = .ok (.bool a.isNone) w := fun w a n c => Lib.run_eql_slice_nil w _ 59 a n c 0 0 (by kernel_rfl)
  go_enter Tryz.func47, Tryz.ntmps47
  cases a with
  | none =>
    go_wp2
    go_ret
    exact ⟨_, rfl, Below.refl _ _⟩
  | some a =>
    go_wp2
    go_ret
    exact ⟨_, rfl, (Below.refl _ _).alloc (Nat.le_refl _) _⟩
set_option maxHeartbeats 2000000 in
set_option maxRecDepth 100000 in
theorem clone48 (a : Option Addr) (c : Nat) (w : World) : Calls Tryz.prog 48 #[.slice a 0 c] w fun e w' => ∃ a', e = .returned (.slice a' 0 0) ∧ Below w.heap.size w w' := by
  have q : ∀ (w : World) (a : Option Addr) (n c : Nat), (binOp .eql 28 (.slice a n c) (.slice none 0 0)).run Tryz.prog w = .ok (.bool a.isNone) w := fun w a n c => Lib.run_eql_slice_nil w _ 51 a n c 0 0 (by kernel_rfl)
  go_enter Tryz.func48, Tryz.ntmps48
  cases a with
  | none =>
    go_wp2
    go_ret
    exact ⟨_, rfl, Below.refl _ _⟩
  | some a =>
    go_wp2
    go_ret
    exact ⟨_, rfl, (Below.refl _ _).alloc (Nat.le_refl _) _⟩
set_option maxHeartbeats 2000000 in
set_option maxRecDepth 100000 in
theorem clone112 (a : Option Addr) (c : Nat) (w : World) : Calls Tryz.prog 112 #[.slice a 0 c] w fun e w' => ∃ a', e = .returned (.slice a' 0 0) ∧ Below w.heap.size w w' := by
  have q : ∀ (w : World) (a : Option Addr) (n c : Nat), (binOp .eql 48 (.slice a n c) (.slice none 0 0)).run Tryz.prog w = .ok (.bool a.isNone) w := fun w a n c => Lib.run_eql_slice_nil w _ 62 a n c 0 0 (by kernel_rfl)
  go_enter Tryz.func112, Tryz.ntmps112
  cases a with
  | none =>
    go_wp2
    go_ret
    exact ⟨_, rfl, Below.refl _ _⟩
  | some a =>
    go_wp2
    go_ret
    exact ⟨_, rfl, (Below.refl _ _).alloc (Nat.le_refl _) _⟩

set_option maxHeartbeats 2000000 in
set_option maxRecDepth 100000 in
theorem clip125 (a : Option Addr) (n c : Nat) (hn : n ≤ c) (w : World) : Calls Tryz.prog 125 #[.slice a n c] w fun e w' => e = .returned (.slice a n n) ∧ w' = w := by
  go_enter Tryz.func125, Tryz.ntmps125
  go_wp2
  go_ret
  exact ⟨rfl, rfl⟩
theorem mod9 (a : Int) : (if Int.tmod a 9 < 0 then Int.tmod a 9 + 9 else Int.tmod a 9) = a % 9 ∧ -9 < Int.tmod a 9 ∧ Int.tmod a 9 < 9 := by
  have h1 := Int.tmod_lt_of_pos a (show (0 : Int) < 9 by decide)
  have h2 : -9 < Int.tmod a 9 := by
    have := Int.tmod_lt_of_pos (-a) (show (0 : Int) < 9 by decide)
    rw [Int.neg_tmod] at this
    omega
  refine ⟨?_, h2, h1⟩
  have h3 : a % 9 = Int.tmod a 9 % 9 := by
    conv => lhs; rw [← Int.tmod_add_mul_tdiv a 9]
    rw [Int.add_mul_emod_self_left]
  split <;> omega
set_option maxHeartbeats 2000000 in
set_option maxRecDepth 100000 in
theorem within13 (x : Int) (w : World) : Calls Tryz.prog 13 #[.int .i64 x, .int .i64 9] w fun e w' => e = .returned (.int .i64 (x % 9)) ∧ w' = w := by
  go_enter Tryz.func13, Tryz.ntmps13
  obtain ⟨m1, m2, m3⟩ := mod9 x
  go_wp2
  · go_ret
    rename_i h
    rw [if_pos h] at m1
    refine ⟨?_, rfl⟩
    rw [← m1]
    rfl
  · go_ret
    rename_i h
    rw [if_neg (by omega)] at m1
    refine ⟨?_, rfl⟩
    rw [← m1]
    rfl
end Go.Proofs.YtllmjcjbpnhciaaGreatDoor.T
namespace Go.Proofs.YtllmjcjbpnhciaaGreatDoor.T
open Go.RowKit Go.Extern.Stop Go.Stop Go.Extern

theorem typeOf37 (v : Value) (w : World) : (ReflectliteType.typeOf #[.iface 37 v]).run Tryz.prog w = .ok (.iface 169 (.agg #[.pointer (some ⟨5, 37, none⟩)])) w := by kernel_rfl
theorem cmp37 (w : World) : ((ReflectliteType.method fun t => do Rtype.noPackHeld "Comparable" t; (fun a => Value.bool a.comparable) <$> typeInfo t) #[.agg #[.pointer (some ⟨5, 37, none⟩)]]).run Tryz.prog w = .ok (.bool true) w := by kernel_rfl
theorem eq1 (a n : Int) (w : World) : (binOp .eql 82 (.iface 107 (.agg #[.int .i64 a, .int .i64 n])) (.iface 37 (.int .i64 0))).run Tryz.prog w = .ok (.bool false) w := by kernel_rfl
theorem eq2 (n : Int) (w : World) : (binOp .eql 82 (.iface 37 (.int .i64 n)) (.iface 37 (.int .i64 0))).run Tryz.prog w = .ok (.bool (n == 0)) w := by kernel_rfl
theorem no1 (v : Value) (w : World) : (Instr.typeAssert (.iface 107 v) 82 171 true).run Tryz.prog w = .ok (.tuple #[.nilIface, .bool false]) w := run_typeAssert_lacksB Tryz.underlying171 (by kernel_rfl) (by kernel_rfl) v 82 w
theorem no2 (v : Value) (w : World) : (Instr.typeAssert (.iface 37 v) 82 171 true).run Tryz.prog w = .ok (.tuple #[.nilIface, .bool false]) w := run_typeAssert_lacksB Tryz.underlying171 (by kernel_rfl) (by kernel_rfl) v 82 w
theorem no3 (v : Value) (w : World) : (Instr.typeAssert (.iface 37 v) 82 174 true).run Tryz.prog w = .ok (.tuple #[.nilIface, .bool false]) w := run_typeAssert_lacksB Tryz.underlying174 (by kernel_rfl) (by kernel_rfl) v 82 w
theorem no4 (v : Value) (w : World) : (Instr.typeAssert (.iface 37 v) 82 176 true).run Tryz.prog w = .ok (.tuple #[.nilIface, .bool false]) w := run_typeAssert_lacksB Tryz.underlying176 (by kernel_rfl) (by kernel_rfl) v 82 w
theorem has1 (v : Value) (w : World) : (Instr.typeAssert (.iface 107 v) 82 174 true).run Tryz.prog w = .ok (.tuple #[.iface 107 v, .bool true]) w := run_typeAssert_hasB Tryz.underlying174 (by kernel_rfl) v 82 w
theorem mCmp (h : Value) (w : World) : (Go.method 342 169 (.agg #[h]) "Comparable").run Tryz.prog w = .ok (158, .agg #[h]) w := by kernel_rfl
theorem mUnwrap (h : Value) (w : World) : (Go.method 342 107 h "Unwrap").run Tryz.prog w = .ok (152, h) w := by kernel_rfl
set_option maxRecDepth 20000 in
set_option maxHeartbeats 4000000 in
theorem unwrap152 (a n : Int) (w : World) : Calls Tryz.prog 152 #[.agg #[.int .i64 a, .int .i64 n]] w fun e w' => e = .returned (.iface 37 (.int .i64 n)) ∧ Below w.heap.size w w' := by
  go_enter Tryz.func152, Tryz.ntmps152
  go_wp2
  go_ret
  refine ⟨rfl, ?_⟩
  exact (Below.refl _ _).alloc (Nat.le_refl _) _
set_option maxRecDepth 20000 in
set_option maxHeartbeats 4000000 in
theorem is84 (a n : Int) (w : World) : Calls Tryz.prog 84 #[.iface 107 (.agg #[.int .i64 a, .int .i64 n]), .iface 37 (.int .i64 0), .bool true] w fun e w' => e = .returned (.bool (n == 0)) ∧ Below w.heap.size w w' := by
  have mU := mUnwrap
  have c152 := unwrap152
  have q1 := eq1
  have q2 := eq2
  have n1 := no1
  have n2 := no2
  have n3 := no3
  have n4 := no4
  have h1 := has1
  go_enter Tryz.func84, Tryz.ntmps84
  go_wp2
  refine wp_loop_rounds 2 ?_
  rw [rounds_succ]
  go_wp2_with (go_at_call 152; refine (unwrap152 _ _ _).mono ?_; rintro e w1 ⟨rfl, hb1⟩)
  rw [rounds_succ]
  cases hn : (n == 0) with
  | true =>
    go_wp2
    go_ret
    exact ⟨by rw [hn]; rfl, hb1⟩
  | false =>
    go_wp2
    go_ret
    exact ⟨by rw [hn]; rfl, hb1⟩
set_option maxRecDepth 20000 in
set_option maxHeartbeats 4000000 in
theorem is_fault (a n : Int) (w : World) : Calls Tryz.prog 60 #[.iface 107 (.agg #[.int .i64 a, .int .i64 n]), .iface 37 (.int .i64 0)] w fun e w' => e = .returned (.bool (n == 0)) ∧ Below w.heap.size w w' := by
  have h83 := @run_callFunc_extern Tryz.prog 83 _ ReflectliteType.typeOf Tryz.func83 (by kernel_rfl) (by kernel_rfl) (by kernel_rfl) (by kernel_rfl)
  have h158 := @run_callFunc_extern Tryz.prog 158 _ (ReflectliteType.method fun t => do Rtype.noPackHeld "Comparable" t; pure (.bool (← typeInfo t).comparable)) Tryz.func158 (by kernel_rfl) (by kernel_rfl) (by kernel_rfl) (by kernel_rfl)
  have t37 := typeOf37
  have c37 := cmp37
  have mC := mCmp
  have c84 := is84
  go_enter Tryz.func60, Tryz.ntmps60
  go_wp2_with (first | (go_at_call 84; refine (is84 _ _ _).mono ?_; rintro e w1 ⟨rfl, hb1⟩))
  go_ret
  exact ⟨rfl, hb1⟩
end Go.Proofs.YtllmjcjbpnhciaaGreatDoor.T
namespace Go.Proofs.YtllmjcjbpnhciaaGreatDoor.T
open Go.RowKit Go.Extern.Stop Go.Stop Go.Extern
theorem valueOf110 (t : Addr) (w : World) : (ReflectliteValue.unpack (.iface 110 (.pointer (some t)))).run Tryz.prog w
    = .ok (.agg #[.pointer (some ⟨5, 110, none⟩), .pointer (some ⟨w.heap.size, 0, none⟩), .int .u64 150]) (w.alloc (.cells #[.pointer (some t)] 110)) := by kernel_rfl
theorem type110 (a : Addr) (w : World) : (ReflectliteValue.methodAny (ReflectliteValue.valueError "reflectlite.Value.Type" 0) (fun t _ _ _ => ReflectliteType.toType t) #[.agg #[.pointer (some ⟨5, 110, none⟩), .pointer (some a), .int .u64 150]]).run Tryz.prog w
    = .ok (.iface 169 (.agg #[.pointer (some ⟨5, 110, none⟩)])) w := by kernel_rfl
theorem methodKind (h : Value) (w : World) : (Go.method 342 169 (.agg #[h]) "Kind").run Tryz.prog w = .ok (147, h) w := by kernel_rfl
theorem kind110 (w : World) : ((ReflectliteType.abiMethod fun t => (fun a : Nat => Value.int IntKind.u8 (a : Int)) <$> Rtype.kind t) #[.pointer (some ⟨5, 110, none⟩)]).run Tryz.prog w = .ok (.int .u8 22) w := by kernel_rfl
theorem kind107 (w : World) : ((ReflectliteType.abiMethod fun t => (fun a : Nat => Value.int IntKind.u8 (a : Int)) <$> Rtype.kind t) #[.pointer (some ⟨5, 107, none⟩)]).run Tryz.prog w = .ok (.int .u8 25) w := by kernel_rfl
theorem rlm (z : Sem Value) (f : TypeId → Addr → Nat → Nat → Sem Value) (v : Value) :
    ReflectliteValue.method z f #[v] = (do match ← ReflectliteValue.parts v with | none => z | some (t, a, fl) => f t a fl (fl % 32)) := rfl
theorem parts110 (a : Addr) (w : World) : (ReflectliteValue.parts (.agg #[.pointer (some ⟨5, 110, none⟩), .pointer (some a), .int .u64 150])).run Tryz.prog w = .ok (some (110, a, 150)) w := by kernel_rfl
theorem isNil110 (a p : Addr) (W : World) (ha : W.cell? a = some (.pointer (some p))) :
    (ReflectliteValue.method (ReflectliteValue.valueError "reflectlite.Value.IsNil" 0) ReflectliteValue.isNil #[.agg #[.pointer (some ⟨5, 110, none⟩), .pointer (some a), .int .u64 150]]).run Tryz.prog W = .ok (.bool false) W := by
  rw [rlm]
  simp only [Sem.run_bind, parts110, Result.andThen]
  simp [ReflectliteValue.isNil, loadVar, isAgg, underlying, Tryz.underlying110, ha, Result.andThen]
theorem methodElem (h : Value) (w : World) : (Go.method 342 169 (.agg #[h]) "Elem").run Tryz.prog w = .ok (159, .agg #[h]) w := by kernel_rfl
theorem methodImplements (h : Value) (w : World) : (Go.method 342 169 (.agg #[h]) "Implements").run Tryz.prog w = .ok (160, .agg #[h]) w := by kernel_rfl
theorem methodAssignableTo (h : Value) (w : World) : (Go.method 342 169 (.agg #[h]) "AssignableTo").run Tryz.prog w = .ok (157, .agg #[h]) w := by kernel_rfl
theorem elem110 (w : World) : (ReflectliteType.method ReflectliteType.elem #[.agg #[.pointer (some ⟨5, 110, none⟩)]]).run Tryz.prog w = .ok (.iface 169 (.agg #[.pointer (some ⟨5, 107, none⟩)])) w := by kernel_rfl
theorem implements107 (w : World) : (ReflectliteType.relation "Implements" ReflectliteType.implements_ #[.agg #[.pointer (some ⟨5, 107, none⟩)], .iface 169 (.agg #[.pointer (some ⟨5, 82, none⟩)])]).run Tryz.prog w = .ok (.bool true) w := by kernel_rfl
theorem typeOf107 (v : Value) (w : World) : (ReflectliteType.typeOf #[.iface 107 v]).run Tryz.prog w = .ok (.iface 169 (.agg #[.pointer (some ⟨5, 107, none⟩)])) w := by kernel_rfl
theorem assignable107 (w : World) : (ReflectliteType.relation "AssignableTo" ReflectliteType.assignableTo #[.agg #[.pointer (some ⟨5, 107, none⟩)], .iface 169 (.agg #[.pointer (some ⟨5, 107, none⟩)])]).run Tryz.prog w = .ok (.bool true) w := by kernel_rfl
theorem valueOf107 (a n : Int) (w : World) : (ReflectliteValue.unpack (.iface 107 (.agg #[.int .i64 a, .int .i64 n]))).run Tryz.prog w
    = .ok (.agg #[.pointer (some ⟨5, 107, none⟩), .pointer (some ⟨w.heap.size, 0, none⟩), .int .u64 153]) (w.alloc (.cells #[.int .i64 a, .int .i64 n] 107)) := by kernel_rfl
theorem elemOf110 (w : World) : (Rtype.elem? 110).run Tryz.prog w = .ok (some 107) w := by kernel_rfl
theorem mk107 (p : Addr) (w : World) : (ReflectliteValue.mk 107 p ReflectliteValue.flagAddr).run Tryz.prog w = .ok (.agg #[.pointer (some ⟨5, 107, none⟩), .pointer (some p), .int .u64 409]) w := by kernel_rfl
theorem elemV110 (a p : Addr) (W : World) (ha : W.cell? a = some (.pointer (some p))) :
    (ReflectliteValue.method (ReflectliteValue.valueError "reflectlite.Value.Elem" 0) ReflectliteValue.elem #[.agg #[.pointer (some ⟨5, 110, none⟩), .pointer (some a), .int .u64 150]]).run Tryz.prog W
      = .ok (.agg #[.pointer (some ⟨5, 107, none⟩), .pointer (some p), .int .u64 409]) W := by
  rw [rlm]
  simp only [Sem.run_bind, parts110, Result.andThen]
  simp [ReflectliteValue.elem, loadVar, isAgg, underlying, Tryz.underlying110, ha, Result.andThen, elemOf110, mk107]
theorem rls (v x : Value) : ReflectliteValue.set #[v, x] = (do
    let (some (dst, a, fl), some (src, b, _)) := (← ReflectliteValue.parts v, ← ReflectliteValue.parts x)
      | unsupported (.noEntry "extern/(internal/reflectlite.Value).Set.zeroValue")
    if fl / ReflectliteValue.flagAddr % 2 == 0 then unsupported (.noEntry "extern/(internal/reflectlite.Value).Set.unaddressable")
    let val ← loadVar src b
    if ← Rtype.directlyAssignable dst src then storeVar dst a val
    else if ← Rtype.implements dst src then
      if (← Rtype.kind src) == 20 then
        match val with
        | .nilIface => unsupported (.noEntry "extern/reflectlite: a nil value of one interface type handed on as a value of another")
        | _ => storeVar dst a val
      else storeVar dst a (.iface src val)
    else panicString ("reflectlite.Set: value of type " ++ (← Rtype.spelt src) ++ " is not assignable to type " ++ (← Rtype.spelt dst))
    pure (.tuple #[])) := rfl
theorem parts107a (a : Addr) (w : World) : (ReflectliteValue.parts (.agg #[.pointer (some ⟨5, 107, none⟩), .pointer (some a), .int .u64 409])).run Tryz.prog w = .ok (some (107, a, 409)) w := by kernel_rfl
theorem parts107 (a : Addr) (w : World) : (ReflectliteValue.parts (.agg #[.pointer (some ⟨5, 107, none⟩), .pointer (some a), .int .u64 153])).run Tryz.prog w = .ok (some (107, a, 153)) w := by kernel_rfl
theorem direct107 (w : World) : (Rtype.directlyAssignable 107 107).run Tryz.prog w = .ok true w := by kernel_rfl
theorem set107 (b : Nat) (c : Nat) (a n : Int) (v0 v1 : Value) (el el' : TypeId) (W : World) (hb : W.heap[c]? = some (.cells #[.int .i64 a, .int .i64 n] el' (0, 0))) (ht : W.heap[b]? = some (.cells #[v0, v1] el (0, 0))) :
    (ReflectliteValue.set #[.agg #[.pointer (some ⟨5, 107, none⟩), .pointer (some ⟨b, 0, none⟩), .int .u64 409], .agg #[.pointer (some ⟨5, 107, none⟩), .pointer (some ⟨c, 0, none⟩), .int .u64 153]]).run Tryz.prog W
      = .ok (.tuple #[]) (W.setRow b #[.int .i64 a, .int .i64 n]) := by
  have e1 : (loadVar 107 ⟨c, 0, none⟩).run Tryz.prog W = .ok (.agg #[.int .i64 a, .int .i64 n]) W := run_loadVar_row W c _ 107 _ _ _ hb Tryz.underlying107 rfl (by kernel_rfl)
  have e2 : (storeVar 107 ⟨b, 0, none⟩ (.agg #[.int .i64 a, .int .i64 n])).run Tryz.prog W = .ok () (W.setRow b #[.int .i64 a, .int .i64 n]) := run_storeVar_row W b _ 107 _ _ ht (by kernel_rfl) rfl (by simp [Value.oneCell'])
  rw [rls]
  simp only [Sem.run_bind, parts107a, parts107, Result.andThen]
  simp [ReflectliteValue.flagAddr, Result.andThen, direct107, e1, e2]

set_option maxRecDepth 20000 in
set_option maxHeartbeats 4000000 in
theorem as_fault (b : Nat) (a n : Int) (v0 v1 : Value) (el : TypeId) (w : World) (hg : w.cell? ⟨0, 0, none⟩ = some (.iface 169 (.agg #[.pointer (some ⟨5, 82, none⟩)]))) (ht : w.heap[b]? = some (.cells #[v0, v1] el (0, 0))) :
    Calls Tryz.prog 61 #[.iface 107 (.agg #[.int .i64 a, .int .i64 n]), .iface 110 (.pointer (some ⟨b, 0, none⟩))] w fun ev w' => ev = .returned (.bool true) ∧
      w' = ((((w.alloc (.cells #[.pointer (some ⟨b, 0, none⟩)] 110)).alloc (.cells #[.pointer (some ⟨5, 110, none⟩), .pointer (some ⟨w.heap.size, 0, none⟩), .int .u64 150] 143)).alloc (.cells #[.pointer (some ⟨5, 110, none⟩), .pointer (some ⟨w.heap.size, 0, none⟩), .int .u64 150] 143)).alloc (.cells #[.int .i64 a, .int .i64 n] 107)).setRow b #[.int .i64 a, .int .i64 n] := by
  have h85 := @run_callFunc_extern Tryz.prog 85 _ (fun args => ReflectliteValue.unpack (args.getD 0 (.tuple #[]))) Tryz.func85 (by kernel_rfl) (by kernel_rfl) (by kernel_rfl) (by kernel_rfl)
  have h86 := @run_callFunc_extern Tryz.prog 86 _ (ReflectliteValue.methodAny (ReflectliteValue.valueError "reflectlite.Value.Type" 0) (fun t _ _ _ => ReflectliteType.toType t)) Tryz.func86 (by kernel_rfl) (by kernel_rfl) (by kernel_rfl) (by kernel_rfl)
  have h87 := @run_callFunc_extern Tryz.prog 87 _ (ReflectliteValue.method (ReflectliteValue.valueError "reflectlite.Value.IsNil" 0) ReflectliteValue.isNil) Tryz.func87 (by kernel_rfl) (by kernel_rfl) (by kernel_rfl) (by kernel_rfl)
  have h147 := @run_callFunc_extern Tryz.prog 147 _ (ReflectliteType.abiMethod fun t => do pure (.int .u8 (← Rtype.kind t))) Tryz.func147 (by kernel_rfl) (by kernel_rfl) (by kernel_rfl) (by kernel_rfl)
  have h159 := @run_callFunc_extern Tryz.prog 159 _ (ReflectliteType.method ReflectliteType.elem) Tryz.func159 (by kernel_rfl) (by kernel_rfl) (by kernel_rfl) (by kernel_rfl)
  have h160 := @run_callFunc_extern Tryz.prog 160 _ (ReflectliteType.relation "Implements" ReflectliteType.implements_) Tryz.func160 (by kernel_rfl) (by kernel_rfl) (by kernel_rfl) (by kernel_rfl)
  have h83 := @run_callFunc_extern Tryz.prog 83 _ ReflectliteType.typeOf Tryz.func83 (by kernel_rfl) (by kernel_rfl) (by kernel_rfl) (by kernel_rfl)
  have h157 := @run_callFunc_extern Tryz.prog 157 _ (ReflectliteType.relation "AssignableTo" ReflectliteType.assignableTo) Tryz.func157 (by kernel_rfl) (by kernel_rfl) (by kernel_rfl) (by kernel_rfl)
  have h114 := @run_callFunc_extern Tryz.prog 114 _ (ReflectliteValue.method (ReflectliteValue.valueError "reflectlite.Value.Elem" 0) ReflectliteValue.elem) Tryz.func114 (by kernel_rfl) (by kernel_rfl) (by kernel_rfl) (by kernel_rfl)
  have h115 := @run_callFunc_extern Tryz.prog 115 _ ReflectliteValue.set Tryz.func115 (by kernel_rfl) (by kernel_rfl) (by kernel_rfl) (by kernel_rfl)
  have tO := typeOf107
  have mA := methodAssignableTo
  have as1 := assignable107
  have v1' := valueOf107
  have f6 := valueOf110
  have f7 := type110
  have mK := methodKind
  have mE := methodElem
  have mI := methodImplements
  have k1 := kind110
  have k2 := kind107
  have e1 := elem110
  have i1 := implements107
  have n8 := isNil110 ⟨w.heap.size, 0, none⟩ ⟨b, 0, none⟩ ((w.alloc (.cells #[.pointer (some ⟨b, 0, none⟩)] 110)).alloc (.cells #[.pointer (some ⟨5, 110, none⟩), .pointer (some ⟨w.heap.size, 0, none⟩), .int .u64 150] 143)) (by simp)
  have hlt : 0 < w.heap.size := by
    rcases Nat.eq_zero_or_pos w.heap.size with h0 | h
    · simp [World.cell?, h0] at hg
    · exact h
  have hg2 : ((w.alloc (.cells #[.pointer (some ⟨b, 0, none⟩)] 110)).alloc (.cells #[.pointer (some ⟨5, 110, none⟩), .pointer (some ⟨w.heap.size, 0, none⟩), .int .u64 150] 143)).cell? ⟨0, 0, none⟩ = some (.iface 169 (.agg #[.pointer (some ⟨5, 82, none⟩)])) := by
    rw [World.cell?_alloc_lt _ _ ⟨0, 0, none⟩ (by simp), World.cell?_alloc_lt _ _ ⟨0, 0, none⟩ hlt]; exact hg
  have htl : b < w.heap.size := (Array.getElem?_eq_some_iff.1 ht).1
  have el1 := elemV110 ⟨w.heap.size, 0, none⟩ ⟨b, 0, none⟩ (((w.alloc (.cells #[.pointer (some ⟨b, 0, none⟩)] 110)).alloc (.cells #[.pointer (some ⟨5, 110, none⟩), .pointer (some ⟨w.heap.size, 0, none⟩), .int .u64 150] 143)).alloc (.cells #[.pointer (some ⟨5, 110, none⟩), .pointer (some ⟨w.heap.size, 0, none⟩), .int .u64 150] 143)) (by rw [World.cell?_alloc_lt _ _ ⟨w.heap.size, 0, none⟩ (by simp; omega)]; simp)
  have al : ∀ (W : World) (o : Go.Obj) (k : Nat), k < W.heap.size → (W.alloc o).heap[k]? = W.heap[k]? := fun W o k hk => by show (W.heap.push o)[k]? = _; rw [Array.getElem?_push, if_neg (Nat.ne_of_lt hk)]
  have st := set107 b (w.heap.size + 1 + 1 + 1) a n v0 v1 el 107 ((((w.alloc (.cells #[.pointer (some ⟨b, 0, none⟩)] 110)).alloc (.cells #[.pointer (some ⟨5, 110, none⟩), .pointer (some ⟨w.heap.size, 0, none⟩), .int .u64 150] 143)).alloc (.cells #[.pointer (some ⟨5, 110, none⟩), .pointer (some ⟨w.heap.size, 0, none⟩), .int .u64 150] 143)).alloc (.cells #[.int .i64 a, .int .i64 n] 107))
    (by show (Array.push _ _)[_]? = _; rw [Array.getElem?_push, if_pos (by simp)])
    (by rw [al _ _ _ (by simp; omega), al _ _ _ (by simp; omega), al _ _ _ (by simp; omega), al _ _ _ htl]; exact ht)
  go_enter Tryz.func61, Tryz.ntmps61
  go_wp2
  refine wp_loop_rounds 1 ?_
  rw [rounds_succ]
  go_wp2
  go_ret
  exact ⟨rfl, rfl⟩
end Go.Proofs.YtllmjcjbpnhciaaGreatDoor.T
