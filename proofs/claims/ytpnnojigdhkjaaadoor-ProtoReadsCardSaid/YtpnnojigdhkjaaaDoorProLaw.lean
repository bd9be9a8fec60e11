/- What the laws of chapter 15 share: 'Make' and 'known', in plain words. -/
import Derived.Test.YtpnnojigdhkjaaaDoorPro
namespace Go.Proofs.YtpnnojigdhkjaaaDoor.Q
open Go.RowKit Go.Proofs.YtpnnojigdhkjaaaDoorW.PrintWords Go.Proofs.YtpnnojigdhkjaaaDoorW.PrintLast Go.Proofs.YtpnnojigdhkjaaaDoorW.PrintMore Go.Proofs.YtpnnojigdhkjaaaDoor.Lx
set_option linter.unusedVariables false
set_option linter.unusedSimpArgs false

theorem within15_f (a n : Int) (hn : 0 < n) (hn' : n ≤ 9223372036854775807) : deadboltlaw15_within.f a n = some (a % n) := by
  unfold deadboltlaw15_within.f
  rw [if_neg (by omega)]
  have h1 := Int.tmod_lt_of_pos a hn
  have h2 : -n < Int.tmod a n := by
    have := Int.tmod_lt_of_pos (-a) hn
    rw [Int.neg_tmod] at this
    omega
  have h3 : a % n = Int.tmod a n % n := by
    conv => lhs; rw [← Int.tmod_add_mul_tdiv a n]
    rw [Int.add_mul_emod_self_left]
  by_cases h : Int.tmod a n < 0
  · rw [if_pos h, w64 (by omega), h3, ← Int.add_emod_right, Int.emod_eq_of_lt (by omega) (by omega)]
  · rw [if_neg h, h3, Int.emod_eq_of_lt (by omega) h1]

/-- the names of Make -/
def nms : List (List UInt8) := [[97], [109, 97, 105, 110], [102], [97, 98, 99, 100, 101, 102, 103, 104, 105, 106, 107, 108], [113, 57]]
def nmB (n : Int) : ByteArray := ⟨(nms.getD (n % 5).toNat []).toArray⟩
theorem nms_ok : ∀ j, j < 5 → nameB (nms.getD j []) = true ∧ (nms.getD j []).length ≤ 12 := by decide
theorem nmB_ok (n : Int) : nameB (nmB n).data.toList = true ∧ (nmB n).size ≤ 12 := by
  have := nms_ok (n % 5).toNat (by omega)
  refine ⟨?_, ?_⟩
  · simpa [nmB] using this.1
  · simpa [nmB, ByteArray.size] using this.2

structure ReqOk (k : Int) (n t : ByteArray) : Prop where
  kind : 1 ≤ k ∧ k ≤ 7
  name : n.size ≤ 12
  text : t.size ≤ 2000
  may : mayB k n t = true

theorem mn_le (a b : Int) : mn a b ≤ a ∧ mn a b ≤ b ∧ (0 ≤ a → 0 ≤ b → 0 ≤ mn a b) := by
  unfold mn
  split <;> omega
theorem nil_size {b : ByteArray} (h : b = ⟨#[]⟩) : b.data.toList.isEmpty = true ∧ b.size = 0 := by subst h; exact ⟨rfl, rfl⟩

/-- Make gives a request that may be -/
theorem Make_ev (a0 a1 : Int) (a2 : ByteArray) (h2 : a2.size ≤ 140737488351232) : ∃ k n t, EvS (fun j => deadboltlaw15_Make.f j a0 a1 a2) (k, n, t) ∧ ReqOk k n t ∧ t.size ≤ a2.size := by
  have hw : wrap64 (1 + a0 % 7) = 1 + a0 % 7 := w64 (by omega)
  have named : ∀ (kd : Int), kd = 1 ∨ kd = 2 ∨ kd = 6 → ∃ k n t, EvS (fun j => deadboltlaw15_Make.j0 j a1 a2 true kd (⟨#[]⟩ : ByteArray) (⟨#[]⟩ : ByteArray)) (k, n, t) ∧ ReqOk k n t ∧ t.size ≤ a2.size := by
    intro kd hkd
    have hn := nmB_ok a1
    have hr : rdOf ByteArray.empty (nms.map fun l => (⟨l.toArray⟩ : ByteArray)) (a1 % 5) = nmB a1 := rdOf_ba nms (a1 % 5) (by omega) (by show a1 % 5 < 5; omega)
    have hm := mn_le (a2.size : Int) 2000
    by_cases h1 : kd = 1
    · subst h1
      have hs : (a2.extract 0 (mn (a2.size : Int) 2000).toNat).size = (mn (a2.size : Int) 2000).toNat := by
        rw [ByteArray.size_extract]
        omega
      refine ⟨1, nmB a1, a2.extract 0 (mn (a2.size : Int) 2000).toNat, ?_, ⟨by decide, hn.2, by omega, ?_⟩, by omega⟩
      · refine EvS.succ ?_
        simp only [deadboltlaw15_Make.j0]
        refine EvS.if_pos trivial (EvS.bind1 (a := nms.map fun l => (⟨l.toArray⟩ : ByteArray)) rfl (EvS.bind1 (within15_f a1 5 (by decide) (by decide)) (EvS.if_pos (by omega) (EvS.if_pos (by show a1 % 5 < 5; omega) (EvS.if_pos trivial (EvS.if_pos (by omega) (EvS.if_pos (by omega) ?_)))))))
        rw [hr]
        exact .some_ _
      · unfold mayB proto_may.f
        rw [if_pos rfl, hn.1]
        simp only [Option.getD_some, Bool.true_and, decide_eq_true_eq]
        omega
    · refine ⟨kd, nmB a1, ⟨#[]⟩, ?_, ⟨by omega, hn.2, by decide, ?_⟩, by show 0 ≤ _; omega⟩
      · refine EvS.succ ?_
        simp only [deadboltlaw15_Make.j0]
        refine EvS.if_pos trivial (EvS.bind1 (a := nms.map fun l => (⟨l.toArray⟩ : ByteArray)) rfl (EvS.bind1 (within15_f a1 5 (by decide) (by decide)) (EvS.if_pos (by omega) (EvS.if_pos (by show a1 % 5 < 5; omega) (EvS.if_neg h1 ?_)))))
        rw [hr]
        exact .some_ _
      · unfold mayB proto_may.f
        rw [if_neg h1, if_pos (by omega), hn.1]
        rfl
  unfold deadboltlaw15_Make.f
  by_cases h1 : 1 + a0 % 7 = 1
  · obtain ⟨k, n, t, h, hg⟩ := named 1 (.inl rfl)
    refine ⟨k, n, t, EvS.bind1 (within15_f a0 7 (by decide) (by decide)) (EvS.if_pos (by rw [hw]; exact h1) ?_), hg⟩
    rw [hw, h1]
    exact h
  · by_cases h2' : 1 + a0 % 7 = 2
    · obtain ⟨k, n, t, h, hg⟩ := named 2 (.inr (.inl rfl))
      refine ⟨k, n, t, EvS.bind1 (within15_f a0 7 (by decide) (by decide)) (EvS.if_neg (by rw [hw]; exact h1) (EvS.if_pos (by rw [hw]; exact h2') ?_)), hg⟩
      rw [hw, h2']
      exact h
    · by_cases h6 : 1 + a0 % 7 = 6
      · obtain ⟨k, n, t, h, hg⟩ := named 6 (.inr (.inr rfl))
        refine ⟨k, n, t, EvS.bind1 (within15_f a0 7 (by decide) (by decide)) (EvS.if_neg (by rw [hw]; exact h1) (EvS.if_neg (by rw [hw]; exact h2') ?_)), hg⟩
        rw [hw, h6]
        exact h
      · refine ⟨1 + a0 % 7, ⟨#[]⟩, ⟨#[]⟩, EvS.bind1 (within15_f a0 7 (by decide) (by decide)) (EvS.if_neg (by rw [hw]; exact h1) (EvS.if_neg (by rw [hw]; exact h2') ?_)), ⟨by omega, by decide, by decide, ?_⟩, by show 0 ≤ _; omega⟩
        · rw [hw, show ((1 + a0 % 7) == 6) = false from beq_eq_false_iff_ne.mpr h6]
          refine EvS.succ ?_
          simp only [deadboltlaw15_Make.j0]
          exact EvS.if_neg (by simp) (EvS.if_neg h1 (.some_ _))
        · unfold mayB proto_may.f
          rw [if_neg h1, if_neg (by omega), if_pos (by omega)]
          rfl

theorem ReqOk.back {k : Int} {n t : ByteArray} (h : ReqOk k n t) : parseR (sealI (msgI k n t)) = (k, n, t, 0) :=
  parse_back k n t (by have := h.kind; omega) (by have := h.name; omega) (by have := h.text; omega) h.may
theorem ReqOk.len {k : Int} {n t : ByteArray} (h : ReqOk k n t) : (sealI (msgI k n t)).length ≤ 2020 := by
  rw [sealI_len, msgI_len]
  have := h.name
  have := h.text
  omega
theorem ReqOk.bts {k : Int} {n t : ByteArray} (h : ReqOk k n t) : Bts (sealI (msgI k n t)) := sealI_Bts (msgI_Bts k n t)
theorem ReqOk.parse {k : Int} {n t : ByteArray} (h : ReqOk k n t) : EvS (fun j => proto_Parse.f j (sealI (msgI k n t))) (k, n, t, 0) := by
  have := Parse_ev _ h.bts (by have := h.len; omega)
  rwa [h.back] at this
theorem ReqOk.bytes {k : Int} {n t : ByteArray} (h : ReqOk k n t) : EvS (fun j => proto_Bytes.f j k n t) (sealI (msgI k n t)) := Bytes_ev k n t (by have := h.name; omega) (by have := h.text; omega)
theorem ReqOk.ref {k : Int} {n t : ByteArray} (h : ReqOk k n t) : EvS (fun j => deadboltref15_Bytes.f j k n t) (sealI (msgI k n t)) := ref_Bytes_ev k n t (by have := h.name; omega) (by have := h.text; omega)
theorem known_ev : EvS (fun j => deadboltlaw15_known.f j) true := by
  have h5 : ReqOk 5 ⟨#[]⟩ ⟨#[]⟩ := ⟨by decide, by decide, by decide, rfl⟩
  have h0 : EvS (fun j => proto_Parse.f j []) badR := Parse_ev [] (by intro x hx; simp at hx) (by decide)
  unfold deadboltlaw15_known.f
  exact EvS.bind h0 (EvS.bind h5.ref (EvS.bind h5.parse (EvS.if_pos rfl (EvS.if_pos rfl (.some_ _)))))
end Go.Proofs.YtpnnojigdhkjaaaDoor.Q
