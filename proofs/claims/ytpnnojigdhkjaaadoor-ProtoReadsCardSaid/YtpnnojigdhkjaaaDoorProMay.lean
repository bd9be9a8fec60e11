/- proto.shape and proto.may: what a kind of request has, and whether a request may be: their contracts, by hand (shape hands out a value of several types). -/
import Derived.Test.YtpnnojigdhkjaaaDoorLexName
namespace Go.Proofs.YtpnnojigdhkjaaaDoor.Q
open Go.RowKit Go.Proofs.YtpnnojigdhkjaaaDoorW.PrintWords Go.Proofs.YtpnnojigdhkjaaaDoorW.PrintLast Go.Proofs.YtpnnojigdhkjaaaDoorW.PrintMore Go.Proofs.YtpnnojigdhkjaaaDoor.Lx
set_option linter.unusedVariables false
set_option linter.unusedSimpArgs false

/-- what proto.shape hands out -/
def shapeV (k : Int) : Value :=
  if k = 1 then .iface 65 (.agg #[])
  else if k = 2 ∨ k = 6 then .iface 66 (.agg #[])
  else if k = 3 ∨ k = 4 ∨ k = 5 ∨ k = 7 then .iface 67 (.agg #[])
  else .nilIface

theorem shape_calls (k : Int) (w : World) : Calls Tryd.prog 28 #[.int .i64 k] w fun e w' => e = .returned (shapeV k) ∧ w = w' := by
  by_cases h1 : k = 1
  · subst h1
    go_enter Tryd.func28, Tryd.ntmps28
    go_wp2
    go_ret
    exact ⟨rfl, rfl⟩
  by_cases h2 : k = 2
  · subst h2
    go_enter Tryd.func28, Tryd.ntmps28
    go_wp2
    go_ret
    exact ⟨rfl, rfl⟩
  by_cases h3 : k = 3
  · subst h3
    go_enter Tryd.func28, Tryd.ntmps28
    go_wp2
    go_ret
    exact ⟨rfl, rfl⟩
  by_cases h4 : k = 4
  · subst h4
    go_enter Tryd.func28, Tryd.ntmps28
    go_wp2
    go_ret
    exact ⟨rfl, rfl⟩
  by_cases h5 : k = 5
  · subst h5
    go_enter Tryd.func28, Tryd.ntmps28
    go_wp2
    go_ret
    exact ⟨rfl, rfl⟩
  by_cases h6 : k = 6
  · subst h6
    go_enter Tryd.func28, Tryd.ntmps28
    go_wp2
    go_ret
    exact ⟨rfl, rfl⟩
  by_cases h7 : k = 7
  · subst h7
    go_enter Tryd.func28, Tryd.ntmps28
    go_wp2
    go_ret
    exact ⟨rfl, rfl⟩
  have q1 : (k == 1) = false := beq_eq_false_iff_ne.2 h1
  have q2 : (k == 2) = false := beq_eq_false_iff_ne.2 h2
  have q3 : (k == 3) = false := beq_eq_false_iff_ne.2 h3
  have q4 : (k == 4) = false := beq_eq_false_iff_ne.2 h4
  have q5 : (k == 5) = false := beq_eq_false_iff_ne.2 h5
  have q6 : (k == 6) = false := beq_eq_false_iff_ne.2 h6
  have q7 : (k == 7) = false := beq_eq_false_iff_ne.2 h7
  have hs : Aside0 (shapeV k = .nilIface) := ⟨by unfold shapeV; rw [if_neg h1, if_neg (by omega), if_neg (by omega)]⟩
  clear h1 h2 h3 h4 h5 h6 h7
  go_enter Tryd.func28, Tryd.ntmps28
  go_wp2
  go_ret
  exact ⟨by rw [hs.out]; rfl, rfl⟩

def proto_may.f (a0_0 : Int) (a0_1 a0_2 : ByteArray) : Option Bool :=
  some (if a0_0 = 1 then nameB a0_1.data.toList && decide (a0_2.size ≤ 2000)
    else if a0_0 = 2 ∨ a0_0 = 6 then nameB a0_1.data.toList && a0_2.data.toList.isEmpty
    else if a0_0 = 3 ∨ a0_0 = 4 ∨ a0_0 = 5 ∨ a0_0 = 7 then a0_1.data.toList.isEmpty && a0_2.data.toList.isEmpty
    else false)

theorem cell_new (w : World) (cs : Array Value) (t : TypeId) (j : Nat) : (w.alloc (.cells cs t)).cell? ⟨w.heap.size, j, none⟩ = cs[j]? := blk_cell (heap_alloc_new w _) j
set_option maxHeartbeats 400000 in
theorem may_texted (a0_0 : Int) (a0_1 a0_2 : ByteArray) (w : World) (hG : GL w) (hsv0 : shapeV a0_0 = .iface 65 (.agg #[])) :
    Calls Tryd.prog 23 #[.agg #[.int .i64 a0_0, .string a0_1, .string a0_2]] w fun e w' => e = .returned (.bool (nameB a0_1.data.toList && decide (a0_2.size ≤ 2000))) ∧ Below w.heap.size w w' := by
  have HG := Aside0.mk hG
  have hsv := Aside0.mk hsv0
  clear hG hsv0
  have htax : ∀ (W : World), (Instr.typeAssert (.iface 65 (.agg #[])) 20 65 true).run Tryd.prog W = .ok (.tuple #[.agg #[], .bool true]) W := fun W => by rfl
  have htan : ∀ (W : World), (Instr.typeAssert (.iface 65 (.agg #[])) 20 66 true).run Tryd.prog W = .ok (.tuple #[.agg #[], .bool false]) W := fun W => by rfl
  have htab : ∀ (W : World), (Instr.typeAssert (.iface 65 (.agg #[])) 20 67 true).run Tryd.prog W = .ok (.tuple #[.agg #[], .bool false]) W := fun W => by rfl
  cases hnm : nameB a0_1.data.toList with
  | false =>
    have hn : Aside0 (lex_Name.f a0_1 = some false) := ⟨by rw [lex_Name.f, hnm]⟩
    clear hnm
    go_enter Tryd.func23, Tryd.ntmps23
    go_wp2_with (first | (go_at_call 28; refine (shape_calls a0_0 _).mono ?_; rintro e w' ⟨rfl, rfl⟩; rw [hsv.out]) | (go_at_call 29; refine (lex_Name.calls a0_1 false _ hn.out (GL.of_below HG.out (below_alloc (Below.refl _ _) _))).mono ?_; rintro e w3_ ⟨rfl, hb⟩; have HB := Aside0.mk hb; have hc2 := (HB.out.cell (p := ⟨w.heap.size, 2, none⟩) (by simp)).trans (cell_new w _ 30 2); clear hb))
    go_ret
    exact ⟨rfl, below_step (below_alloc (Below.refl _ _) _) HB.out⟩
  | true =>
    have hn : Aside0 (lex_Name.f a0_1 = some true) := ⟨by rw [lex_Name.f, hnm]⟩
    clear hnm
    go_enter Tryd.func23, Tryd.ntmps23
    go_wp2_with (first | (go_at_call 28; refine (shape_calls a0_0 _).mono ?_; rintro e w' ⟨rfl, rfl⟩; rw [hsv.out]) | (go_at_call 29; refine (lex_Name.calls a0_1 true _ hn.out (GL.of_below HG.out (below_alloc (Below.refl _ _) _))).mono ?_; rintro e w3_ ⟨rfl, hb⟩; have HB := Aside0.mk hb; have hc2 := (HB.out.cell (p := ⟨w.heap.size, 2, none⟩) (by simp)).trans (cell_new w _ 30 2); clear hb))
    go_ret
    exact ⟨by simp [*]; omega, below_step (below_alloc (Below.refl _ _) _) HB.out⟩
set_option maxHeartbeats 400000 in
theorem may_named (a0_0 : Int) (a0_1 a0_2 : ByteArray) (w : World) (hG : GL w) (hsv0 : shapeV a0_0 = .iface 66 (.agg #[])) :
    Calls Tryd.prog 23 #[.agg #[.int .i64 a0_0, .string a0_1, .string a0_2]] w fun e w' => e = .returned (.bool (nameB a0_1.data.toList && a0_2.data.toList.isEmpty)) ∧ Below w.heap.size w w' := by
  have HG := Aside0.mk hG
  have hsv := Aside0.mk hsv0
  clear hG hsv0
  have htax : ∀ (W : World), (Instr.typeAssert (.iface 66 (.agg #[])) 20 65 true).run Tryd.prog W = .ok (.tuple #[.agg #[], .bool false]) W := fun W => by rfl
  have htan : ∀ (W : World), (Instr.typeAssert (.iface 66 (.agg #[])) 20 66 true).run Tryd.prog W = .ok (.tuple #[.agg #[], .bool true]) W := fun W => by rfl
  have htab : ∀ (W : World), (Instr.typeAssert (.iface 66 (.agg #[])) 20 67 true).run Tryd.prog W = .ok (.tuple #[.agg #[], .bool false]) W := fun W => by rfl
  cases hnm : nameB a0_1.data.toList with
  | false =>
    have hn : Aside0 (lex_Name.f a0_1 = some false) := ⟨by rw [lex_Name.f, hnm]⟩
    clear hnm
    go_enter Tryd.func23, Tryd.ntmps23
    go_wp2_with (first | (go_at_call 28; refine (shape_calls a0_0 _).mono ?_; rintro e w' ⟨rfl, rfl⟩; rw [hsv.out]) | (go_at_call 29; refine (lex_Name.calls a0_1 false _ hn.out (GL.of_below HG.out (below_alloc (Below.refl _ _) _))).mono ?_; rintro e w3_ ⟨rfl, hb⟩; have HB := Aside0.mk hb; have hc2 := (HB.out.cell (p := ⟨w.heap.size, 2, none⟩) (by simp)).trans (cell_new w _ 30 2); clear hb))
    go_ret
    exact ⟨rfl, below_step (below_alloc (Below.refl _ _) _) HB.out⟩
  | true =>
    have hn : Aside0 (lex_Name.f a0_1 = some true) := ⟨by rw [lex_Name.f, hnm]⟩
    clear hnm
    go_enter Tryd.func23, Tryd.ntmps23
    go_wp2_with (first | (go_at_call 28; refine (shape_calls a0_0 _).mono ?_; rintro e w' ⟨rfl, rfl⟩; rw [hsv.out]) | (go_at_call 29; refine (lex_Name.calls a0_1 true _ hn.out (GL.of_below HG.out (below_alloc (Below.refl _ _) _))).mono ?_; rintro e w3_ ⟨rfl, hb⟩; have HB := Aside0.mk hb; have hc2 := (HB.out.cell (p := ⟨w.heap.size, 2, none⟩) (by simp)).trans (cell_new w _ 30 2); clear hb))
    go_ret
    exact ⟨by simp [*, ByteArray.toList_eq], below_step (below_alloc (Below.refl _ _) _) HB.out⟩
set_option maxHeartbeats 400000 in
theorem may_bare (a0_0 : Int) (a0_1 a0_2 : ByteArray) (w : World) (hsv0 : shapeV a0_0 = .iface 67 (.agg #[])) :
    Calls Tryd.prog 23 #[.agg #[.int .i64 a0_0, .string a0_1, .string a0_2]] w fun e w' => e = .returned (.bool (a0_1.data.toList.isEmpty && a0_2.data.toList.isEmpty)) ∧ Below w.heap.size w w' := by
  have hsv := Aside0.mk hsv0
  clear hsv0
  have htax : ∀ (W : World), (Instr.typeAssert (.iface 67 (.agg #[])) 20 65 true).run Tryd.prog W = .ok (.tuple #[.agg #[], .bool false]) W := fun W => by rfl
  have htan : ∀ (W : World), (Instr.typeAssert (.iface 67 (.agg #[])) 20 66 true).run Tryd.prog W = .ok (.tuple #[.agg #[], .bool false]) W := fun W => by rfl
  have htab : ∀ (W : World), (Instr.typeAssert (.iface 67 (.agg #[])) 20 67 true).run Tryd.prog W = .ok (.tuple #[.agg #[], .bool true]) W := fun W => by rfl
  have e1 : a0_1.data.toList = a0_1.toList := (ByteArray.toList_eq _).symm
  have e2 : a0_2.data.toList = a0_2.toList := (ByteArray.toList_eq _).symm
  rw [e1, e2]
  clear e1 e2
  cases hnm : a0_1.toList.isEmpty with
  | false =>
    have hne : ¬ a0_1.toList = [] := by simpa using hnm
    go_enter Tryd.func23, Tryd.ntmps23
    go_wp2_with (go_at_call 28; refine (shape_calls a0_0 _).mono ?_; rintro e w' ⟨rfl, rfl⟩; rw [hsv.out])
    go_ret
    exact ⟨rfl, below_alloc (Below.refl _ _) _⟩
  | true =>
    have hne : a0_1.toList = [] := by simpa using hnm
    clear hnm
    go_enter Tryd.func23, Tryd.ntmps23
    go_wp2_with (go_at_call 28; refine (shape_calls a0_0 _).mono ?_; rintro e w' ⟨rfl, rfl⟩; rw [hsv.out])
    go_ret
    exact ⟨by simp [*], below_alloc (Below.refl _ _) _⟩
set_option maxHeartbeats 400000 in
theorem may_none (a0_0 : Int) (a0_1 a0_2 : ByteArray) (w : World) (hsv0 : shapeV a0_0 = .nilIface) :
    Calls Tryd.prog 23 #[.agg #[.int .i64 a0_0, .string a0_1, .string a0_2]] w fun e w' => e = .returned (.bool false) ∧ Below w.heap.size w w' := by
  have hsv := Aside0.mk hsv0
  clear hsv0
  have htax : ∀ (W : World), (Instr.typeAssert (.nilIface) 20 65 true).run Tryd.prog W = .ok (.tuple #[.agg #[], .bool false]) W := fun W => by rfl
  have htan : ∀ (W : World), (Instr.typeAssert (.nilIface) 20 66 true).run Tryd.prog W = .ok (.tuple #[.agg #[], .bool false]) W := fun W => by rfl
  have htab : ∀ (W : World), (Instr.typeAssert (.nilIface) 20 67 true).run Tryd.prog W = .ok (.tuple #[.agg #[], .bool false]) W := fun W => by rfl
  go_enter Tryd.func23, Tryd.ntmps23
  go_wp2_with (go_at_call 28; refine (shape_calls a0_0 _).mono ?_; rintro e w' ⟨rfl, rfl⟩; rw [hsv.out])
  go_ret
  exact ⟨rfl, below_alloc (Below.refl _ _) _⟩

theorem proto_may.calls (a0_0 : Int) (a0_1 : ByteArray) (a0_2 : ByteArray) (r : Bool) (w : World) (h : proto_may.f a0_0 a0_1 a0_2 = some r) (hG : GL w) :
    Calls Tryd.prog 23 #[.agg #[.int .i64 a0_0, .string a0_1, .string a0_2]] w fun e w' => e = .returned (.bool r) ∧ Below w.heap.size w w' := by
  unfold proto_may.f at h
  have h := Option.some.inj h
  subst h
  by_cases h1 : a0_0 = 1
  · rw [if_pos h1]
    exact may_texted a0_0 a0_1 a0_2 w hG (by unfold shapeV; rw [if_pos h1])
  by_cases h2 : a0_0 = 2 ∨ a0_0 = 6
  · rw [if_neg h1, if_pos h2]
    exact may_named a0_0 a0_1 a0_2 w hG (by unfold shapeV; rw [if_neg h1, if_pos h2])
  by_cases h3 : a0_0 = 3 ∨ a0_0 = 4 ∨ a0_0 = 5 ∨ a0_0 = 7
  · rw [if_neg h1, if_neg h2, if_pos h3]
    exact may_bare a0_0 a0_1 a0_2 w (by unfold shapeV; rw [if_neg h1, if_neg h2, if_pos h3])
  · rw [if_neg h1, if_neg h2, if_neg h3]
    exact may_none a0_0 a0_1 a0_2 w (by unfold shapeV; rw [if_neg h1, if_neg h2, if_neg h3])
end Go.Proofs.YtpnnojigdhkjaaaDoor.Q
