/- deadboltref4.Name in plain words. -/
import Derived.Test.YtpnnojigdhkjaaaDoorText
import Derived.Test.YtpnnojigdhkjaaaDoorLexName
import Derived.Test.YtpnnojigdhkjaaaDoorQ3
namespace Go.Proofs.YtpnnojigdhkjaaaDoor.Q
open Go.RowKit Go.Proofs.YtpnnojigdhkjaaaDoorW.PrintWords Go.Proofs.YtpnnojigdhkjaaaDoorW.PrintLast Go.Proofs.YtpnnojigdhkjaaaDoorW.PrintMore Go.Proofs.YtpnnojigdhkjaaaDoor.Lx
set_option linter.unusedVariables false
set_option linter.unusedSimpArgs false

theorem bt_nat (s : ByteArray) (i : Nat) (h : i < s.size) : bt s (i : Int) = (s[i].toNat : Int) := by
  unfold bt
  rw [dif_pos (by simpa using h)]
  rfl
/-! ### names -/
theorem sgnRow_all : ∀ l : List UInt8, decide (sgnRow l = l.length) = l.all signB
  | [] => rfl
  | c :: r => by
    have ih := sgnRow_all r
    simp only [sgnRow, List.length_cons, List.all_cons]
    by_cases h : signB c = true
    · simp [h, ih]
    · simp [h]

def wordsBA : List ByteArray := wordsC.map fun l => ⟨l.toArray⟩
theorem word_ev (s : ByteArray) : EvS (fun k => deadboltref4_word.f k s) (wordsC.contains s.data.toList) := by
  have H : ∀ (d i : Nat), 11 - i = d → i ≤ 11 → EvS (fun k => deadboltref4_word.l0 k s wordsBA (i : Int)) ((wordsC.drop i).contains s.data.toList) := by
    have hl : wordsBA.length = 11 := rfl
    have hl' : wordsC.length = 11 := rfl
    intro d
    induction d with
    | zero =>
      intro i hd hi
      obtain rfl : i = 11 := by omega
      refine EvS.succ ?_
      simp only [deadboltref4_word.l0]
      exact EvS.if_neg (by rw [hl]; omega) (.some_ _)
    | succ d ih =>
      intro i hd hi
      have hw : wrap64 ((i : Int) + 1) = ((i + 1 : Nat) : Int) := by rw [w64 (by omega)]; omega
      have hlt : i < wordsC.length := by omega
      refine EvS.succ ?_
      simp only [deadboltref4_word.l0]
      refine EvS.if_pos (by rw [hl]; omega) (EvS.if_pos (by omega) ?_)
      rw [wordsBA, rdOf_ba wordsC _ (by omega) (by omega), ByteArray.toList_eq, ByteArray.toList_eq, List.drop_eq_getElem_cons hlt]
      have hg : wordsC.getD (i : Int).toNat [] = wordsC[i] := by simp [List.getD_eq_getElem?_getD, List.getElem?_eq_getElem hlt]
      simp only [hg, List.contains_cons]
      by_cases h : s.data.toList = wordsC[i]
      · refine EvS.if_pos (by simpa using h) ?_
        rw [beq_iff_eq.2 h]
        exact .some_ _
      · refine EvS.if_neg (by simpa using h) ?_
        rw [beq_eq_false_iff_ne.2 h, Bool.false_or, hw]
        exact ih (i + 1) (by omega) (by omega)
  unfold deadboltref4_word.f
  exact H 11 0 rfl (by omega)

theorem sign_parts (c : UInt8) : signB c = (decide (97 ≤ (c.toNat : Int)) && decide ((c.toNat : Int) ≤ 122) || decide (48 ≤ (c.toNat : Int)) && decide ((c.toNat : Int) ≤ 57)) := (sign_int c).symm

theorem name_l0 (s : ByteArray) (hs : s.size ≤ 12) : ∀ (d i : Nat), s.size - i = d → i ≤ s.size → EvS (fun k => deadboltref4_Name.l0 k s (i : Int)) ((s.data.toList.drop i).all signB) := by
  intro d
  induction d with
  | zero =>
    intro i hd hi
    refine EvS.succ ?_
    simp only [deadboltref4_Name.l0]
    rw [List.drop_of_length_le (by simp; omega)]
    exact EvS.if_neg (by omega) (.some_ _)
  | succ d ih =>
    intro i hd hi
    have hlt : i < s.size := by omega
    have hw : wrap64 ((i : Int) + 1) = ((i + 1 : Nat) : Int) := by rw [w64 (by omega)]; omega
    have nx := ih (i + 1) (by omega) (by omega)
    have hsp := sign_parts s[i]
    refine EvS.succ ?_
    simp only [deadboltref4_Name.l0]
    refine EvS.if_pos (by omega) (EvS.if_pos (by omega) ?_)
    rw [bt_nat s i hlt, hw, drop_cons s i hlt, List.all_cons]
    have yes : signB s[i] = true → EvS (fun k => deadboltref4_Name.l0 k s ((i + 1 : Nat) : Int)) (signB s[i] && (s.data.toList.drop (i + 1)).all signB) := fun h => by rw [h, Bool.true_and]; exact nx
    have no : signB s[i] = false → EvS (fun _ => some false) (signB s[i] && (s.data.toList.drop (i + 1)).all signB) := fun h => by rw [h]; exact .some_ _
    by_cases h1 : (s[i].toNat : Int) < 97
    · refine EvS.if_pos h1 ?_
      by_cases h2 : (s[i].toNat : Int) < 48
      · exact EvS.if_pos h2 (no (by rw [hsp, decide_eq_false (by omega : ¬ 97 ≤ (s[i].toNat : Int)), decide_eq_false (by omega : ¬ 48 ≤ (s[i].toNat : Int))]; rfl))
      · refine EvS.if_neg h2 ?_
        by_cases h3 : (s[i].toNat : Int) > 57
        · exact EvS.if_pos h3 (no (by rw [hsp, decide_eq_false (by omega : ¬ 97 ≤ (s[i].toNat : Int)), decide_eq_false (by omega : ¬ (s[i].toNat : Int) ≤ 57)]; simp))
        · exact EvS.if_neg h3 (yes (by rw [hsp, decide_eq_true (by omega : 48 ≤ (s[i].toNat : Int)), decide_eq_true (by omega : (s[i].toNat : Int) ≤ 57)]; simp))
    · refine EvS.if_neg h1 ?_
      by_cases h2 : (s[i].toNat : Int) > 122
      · refine EvS.if_pos h2 (EvS.if_neg (by omega) (EvS.if_pos (by omega) (no (by rw [hsp, decide_eq_false (by omega : ¬ (s[i].toNat : Int) ≤ 122), decide_eq_false (by omega : ¬ (s[i].toNat : Int) ≤ 57)]; simp))))
      · exact EvS.if_neg h2 (yes (by rw [hsp, decide_eq_true (by omega : 97 ≤ (s[i].toNat : Int)), decide_eq_true (by omega : (s[i].toNat : Int) ≤ 122)]; simp))

/-- the document's names are the code's -/
theorem Name4_ev (s : ByteArray) : EvS (fun k => deadboltref4_Name.f k s) (nameB s.data.toList) := by
  have base : EvS (fun k => deadboltref4_Name.f k s) (nameB s.data.toList) := by
    have jt : ∀ r : Bool, r = false → EvS (fun k => deadboltref4_Name.j0 k s true) r := fun r h => by
      subst h
      refine EvS.succ ?_
      simp only [deadboltref4_Name.j0]
      exact EvS.if_pos trivial (.some_ _)
    unfold deadboltref4_Name.f
    by_cases h0 : (s.size : Int) < 1
    · refine EvS.if_pos h0 (jt _ ?_)
      have e0 : s.data.toList = [] := List.eq_nil_of_length_eq_zero (by rw [Array.length_toList]; show s.size = 0; omega)
      rw [e0]; rfl
    have hcons : s.data.toList = s[0] :: s.data.toList.drop 1 := by simpa using drop_cons s 0 (by omega)
    have hlen : (s.data.toList.drop 1).length + 1 = s.size := by simp; omega
    by_cases h12 : (s.size : Int) > 12
    · refine EvS.if_neg h0 (EvS.if_pos h12 (jt _ ?_))
      rw [hcons]
      simp only [nameB]
      rw [decide_eq_false (by omega : ¬ (s.data.toList.drop 1).length < 12)]
      rfl
    have hn : nameB s.data.toList = (letterB s[0] && s.data.toList.all signB && !(wordsC.contains s.data.toList)) := by
      rw [hcons]
      simp only [nameB]
      rw [decide_eq_true (by omega : (s.data.toList.drop 1).length < 12), ← sgnRow_all]
      simp
    refine EvS.if_neg h0 (EvS.if_neg h12 (EvS.bind (word_ev s) ?_))
    by_cases hwd : wordsC.contains s.data.toList = true
    · refine EvS.if_pos hwd (jt _ ?_)
      rw [hn, hwd]
      simp
    · refine EvS.if_neg hwd (EvS.if_pos (by omega) ?_)
      have hb : bt s 0 = (s[0].toNat : Int) := bt_nat s 0 (by omega)
      refine EvS.succ ?_
      simp only [deadboltref4_Name.j0]
      rw [hb]
      have hwd' : wordsC.contains s.data.toList = false := by simpa using hwd
      have hli := letter_int' s[0]
      by_cases h97 : (s[0].toNat : Int) < 97
      · refine EvS.if_pos (by simpa using h97) ?_
        have : letterB s[0] = false := by rw [← hli, decide_eq_false (by omega : ¬ (97 : Int) ≤ (s[0].toNat : Int))]; rfl
        rw [hn, this]
        exact .some_ _
      · refine EvS.if_neg (by simpa using h97) ?_
        have nx := name_l0 s (by omega) _ 0 rfl (by omega)
        rw [List.drop_zero] at nx
        have e : nameB s.data.toList = s.data.toList.all signB := by
          rw [hn, hwd']
          cases ha : s.data.toList.all signB with
          | false => simp
          | true =>
            have hs0 : signB s[0] = true := by rw [hcons, List.all_cons, Bool.and_eq_true] at ha; exact ha.1
            rw [sign_parts] at hs0
            have : letterB s[0] = true := by
              rw [← hli]
              simp only [Bool.or_eq_true, Bool.and_eq_true, decide_eq_true_eq] at hs0 ⊢
              omega
            rw [this]; rfl
        rw [e]
        exact nx
  exact base
end Go.Proofs.YtpnnojigdhkjaaaDoor.Q
