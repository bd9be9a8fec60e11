/- ProtoReads, in plain words: nothing more than the walk asks. -/
import Derived.Test.YtpnnojigdhkjaaaDoorProReads
namespace Go.Proofs.YtpnnojigdhkjaaaDoor.Q
open Go.RowKit Go.Proofs.YtpnnojigdhkjaaaDoorW.PrintWords Go.Proofs.YtpnnojigdhkjaaaDoorW.PrintLast Go.Proofs.YtpnnojigdhkjaaaDoorW.PrintMore Go.Proofs.YtpnnojigdhkjaaaDoor.Lx
set_option linter.unusedVariables false
set_option linter.unusedSimpArgs false

theorem bts_of_wf {l : List Int} (h : ∀ x ∈ l, (Lit.int .u8 x).wf = true) : Bts l := by
  intro x hx
  have := h x hx
  simp only [Lit.wf, IntKind.min, IntKind.max, IntKind.signed, IntKind.bits, Bool.and_eq_true, decide_eq_true_eq] at this
  simp at this
  omega
theorem deadboltlaw15_ProtoReads.walk (P : True) (a0 : Int) (a1 : Int) (a2 : ByteArray) (a3 : Option Addr) (len3 cap3 : Nat) (z3 : List Int) (a4 : Option Addr) (len4 cap4 : Nat) (z4 : List Int) (a5 : Int) (a6 : Option Addr) (len6 cap6 : Nat) (z6 : List Int) (w : World)
    (w0 : (Lit.int .i64 a0).wf = true) (w1 : (Lit.int .i64 a1).wf = true) (w2 : a2.size ≤ 140737488351232)
    (w3 : (a3 = none ∧ len3 = 0 ∧ cap3 = 0 ∧ z3 = []) ∨ ∃ x, a3 = some x ∧ len3 ≤ cap3 ∧ cap3 ≤ maxLen ∧ z3.length = cap3 ∧ (∀ i, i < z3.length → w.cell? (x.add i) = some (.int .i64 (z3.getD i 0))) ∧ ∀ n ∈ z3, (Lit.int .i64 n).wf = true) (y3 : len3 * 8 ≤ 140737488351232)
    (w4 : (a4 = none ∧ len4 = 0 ∧ cap4 = 0 ∧ z4 = []) ∨ ∃ x, a4 = some x ∧ len4 ≤ cap4 ∧ cap4 ≤ maxLen ∧ z4.length = cap4 ∧ (∀ i, i < z4.length → w.cell? (x.add i) = some (.int .u8 (z4.getD i 0))) ∧ ∀ n ∈ z4, (Lit.int .u8 n).wf = true) (y4 : len4 * 1 ≤ 140737488351232)
    (w5 : (Lit.int .i64 a5).wf = true)
    (w6 : (a6 = none ∧ len6 = 0 ∧ cap6 = 0 ∧ z6 = []) ∨ ∃ x, a6 = some x ∧ len6 ≤ cap6 ∧ cap6 ≤ maxLen ∧ z6.length = cap6 ∧ (∀ i, i < z6.length → w.cell? (x.add i) = some (.int .u8 (z6.getD i 0))) ∧ ∀ n ∈ z6, (Lit.int .u8 n).wf = true) (y6 : len6 * 1 ≤ 140737488351232) (hG : GL w) :
    Calls Tryd.prog 4 #[.int .i64 a0, .int .i64 a1, .string a2, .slice a3 len3 cap3, .slice a4 len4 cap4, .int .i64 a5, .slice a6 len6 cap6] w fun e w' => e = .returned (.bool true) ∧ Below w.heap.size w w' := by
  obtain ⟨l3, rfl, hr3, hm3, hw3, hc3⟩ := ReadsInt.ofRowC w3
  obtain ⟨l4, rfl, hr4, hm4, hw4, hc4⟩ := ReadsInt.ofRowC w4
  obtain ⟨l6, rfl, hr6, hm6, hw6, hc6⟩ := ReadsInt.ofRowC w6
  obtain ⟨kn, hkn⟩ := known_ev.exists_
  obtain ⟨k, n, t, hmk, hok, _⟩ := Make_ev a0 a1 a2 w2
  obtain ⟨km, hkm⟩ := hmk.exists_
  exact reads_row a0 a1 a2 a3 cap3 l3 a4 cap4 l4 a5 a6 cap6 l6 kn hkn km k n t (fun _ => hkm) (fun _ => hok) w hG
    (Kd.C_of_reads (d := (0 : Int)) (h1 := fun _ => rfl) hr3) hc3 (Kd.C_of_reads (d := (0 : Int)) (h1 := fun _ => rfl) hr4) hc4 (Kd.C_of_reads (d := (0 : Int)) (h1 := fun _ => rfl) hr6) hc6 (bts_of_wf hw4) (bts_of_wf hw6)
end Go.Proofs.YtpnnojigdhkjaaaDoor.Q
namespace Go.Proofs.YtpnnojigdhkjaaaDoor.Pure
/-- nothing more is asked: the walk above is the law -/
theorem ProtoReads : True := trivial
end Go.Proofs.YtpnnojigdhkjaaaDoor.Pure
