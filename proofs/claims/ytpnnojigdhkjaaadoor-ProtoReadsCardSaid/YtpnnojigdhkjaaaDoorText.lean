/- deadboltlaw5.Text in plain words, where the seat is not chapter 5's. -/
import Derived.Test.YtpnnojigdhkjaaaDoorEv
import Derived.Test.YtpnnojigdhkjaaaDoorQ2
namespace Go.Proofs.YtpnnojigdhkjaaaDoor.Q
open Go.RowKit Go.Proofs.YtpnnojigdhkjaaaDoorW.PrintWords Go.Proofs.YtpnnojigdhkjaaaDoorW.PrintLast Go.Proofs.YtpnnojigdhkjaaaDoorW.PrintMore Go.Proofs.YtpnnojigdhkjaaaDoor.Lx
set_option linter.unusedVariables false
set_option linter.unusedSimpArgs false

theorem ba_ext {a b : ByteArray} (h : a.data.toList = b.data.toList) : a = b := by
  cases a; cases b
  simp only [ByteArray.mk.injEq]
  exact Array.ext' h
theorem within_f (a n : Int) (hn : 0 < n) (hn' : n ≤ 9223372036854775807) : deadboltlaw5_within.f a n = some (a % n) := by
  unfold deadboltlaw5_within.f
  rw [if_neg (by omega)]
  have h1 := Int.tmod_lt_of_pos a hn
  have h2 : -n < Int.tmod a n := by
    have := Int.tmod_lt_of_pos (-a) hn
    rw [Int.neg_tmod] at this
    omega
  have h3 : a % n = Int.tmod a n % n := by
    conv => lhs; rw [← Int.tmod_add_mul_tdiv a n]
    rw [Int.add_mul_emod_self_left]
  by_cases h : Int.tmod a n < 0
  · rw [if_pos h, w64 (by omega), h3, ← Int.add_emod_right, Int.emod_eq_of_lt (by omega) (by omega)]
  · rw [if_neg h, h3, Int.emod_eq_of_lt (by omega) h1]

/-- the pieces of Text -/
def pcs : List (List UInt8) := [[123], [125], [32], [120], [108], [109, 97, 105, 110], [117, 115, 101, 32], [115, 101, 116, 32], [108, 111, 99, 107, 32], [117, 110, 108, 111, 99, 107, 32], [99, 97, 108, 108, 32], [115, 112, 97, 119, 110, 32], [105, 102, 32], [101, 108, 115, 101, 32], [108, 111, 111, 112, 32], [118, 97, 114, 32], [102, 117, 110, 99, 32], [102, 32], [57], [10], [9], [65], [109, 50], [97, 98, 99, 100, 101, 102, 103, 104, 105, 106, 107, 108, 109]]
def pc (n : Int) : List UInt8 := pcs.getD (n % 24).toNat []
def txt (l : List Int) : List UInt8 := (l.take 150).flatMap pc
theorem pc_len (n : Int) : (pc n).length ≤ 13 := by
  have : ∀ j, j < 24 → (pcs.getD j []).length ≤ 13 := by decide
  exact this _ (by omega)
theorem txt_len (l : List Int) : (txt l).length ≤ 1950 := by
  have : ∀ (m : List Int), (m.flatMap pc).length ≤ 13 * m.length := by
    intro m
    induction m with
    | nil => simp
    | cons a r ih => have := pc_len a; simp only [List.flatMap_cons, List.length_append, List.length_cons]; omega
  have h := this (l.take 150)
  have : (l.take 150).length ≤ 150 := by simp; omega
  unfold txt
  omega

theorem ba_app (a b : List UInt8) : (⟨a.toArray⟩ : ByteArray) ++ ⟨b.toArray⟩ = ⟨(a ++ b).toArray⟩ := by
  apply ba_ext
  simp

theorem rdOf_ba (ps : List (List UInt8)) (i : Int) (h0 : 0 ≤ i) (h : i < ps.length) : rdOf ByteArray.empty (ps.map fun l => (⟨l.toArray⟩ : ByteArray)) i = ⟨(ps.getD i.toNat []).toArray⟩ := by
  unfold rdOf
  have hl : i.toNat < ps.length := by omega
  simp [List.getD_eq_getElem?_getD, List.getElem?_eq_getElem hl]

theorem Text_ev (l : List Int) (hl : l.length ≤ 9223372036854775807) : EvS (fun k => deadboltlaw5_Text.f k l) ⟨(txt l).toArray⟩ := by
  have H : ∀ (d i : Nat), min 150 l.length - i = d → i ≤ min 150 l.length → EvS (fun k => deadboltlaw5_Text.l0 k l ⟨((l.take i).flatMap pc).toArray⟩ (i : Int)) ⟨(txt l).toArray⟩ := by
    intro d
    induction d with
    | zero =>
      intro i hd hi
      have e : txt l = (l.take i).flatMap pc := by
        unfold txt
        by_cases h : i < 150
        · rw [List.take_of_length_le (show l.length ≤ 150 by omega), List.take_of_length_le (show l.length ≤ i by omega)]
        · rw [show i = 150 by omega]
      rw [e]
      refine EvS.succ ?_
      simp only [deadboltlaw5_Text.l0]
      by_cases h : (i : Int) < l.length
      · exact EvS.if_pos h (EvS.if_neg (by omega) (.some_ _))
      · exact EvS.if_neg h (.some_ _)
    | succ d ih =>
      intro i hd hi
      have hw : wrap64 ((i : Int) + 1) = ((i + 1 : Nat) : Int) := by rw [w64 (by omega)]; omega
      have hlt : i < l.length := by omega
      have hrd : rd l (i : Int) = l[i] := by simp [rd, List.getD_eq_getElem?_getD, List.getElem?_eq_getElem hlt]
      have hsz : ((l.take i).flatMap pc).length ≤ 1950 := by
        have h := txt_len (l.take i)
        unfold txt at h
        rwa [List.take_take, show min 150 i = i by omega] at h
      have hp := pc_len l[i]
      have hs2 : ∀ m : List UInt8, (⟨m.toArray⟩ : ByteArray).size = m.length := fun m => by simp [ByteArray.size]
      have ht : (l.take (i + 1)).flatMap pc = (l.take i).flatMap pc ++ pc l[i] := by
        rw [List.take_succ_eq_append_getElem hlt, List.flatMap_append]
        simp
      refine EvS.succ ?_
      simp only [deadboltlaw5_Text.l0]
      refine EvS.if_pos (by omega) (EvS.if_pos (by omega) (EvS.bind1 (a := pcs.map fun l => (⟨l.toArray⟩ : ByteArray)) rfl (EvS.if_pos (by omega) (EvS.bind1 (within_f _ 24 (by decide) (by decide)) (EvS.if_pos (by omega) (EvS.if_pos ?_ ?_))))))
      · simp only [List.length_map]
        show rd l (i : Int) % 24 < 24
        omega
      · rw [rdOf_ba pcs _ (by omega) (by show rd l (i : Int) % 24 < 24; omega), hrd, hw]
        refine EvS.if_pos ?_ ?_
        · rw [hs2, hs2]
          show _ + (pc l[i]).length ≤ _
          omega
        · have := ih (i + 1) (by omega) (by omega)
          rw [ht] at this
          rw [ba_app]
          exact this
  unfold deadboltlaw5_Text.f
  have := H _ 0 rfl (by omega)
  exact this
end Go.Proofs.YtpnnojigdhkjaaaDoor.Q
