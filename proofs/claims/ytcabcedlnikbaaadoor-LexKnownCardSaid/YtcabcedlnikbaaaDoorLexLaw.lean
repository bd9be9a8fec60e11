/- What the laws of chapter 5 share: 'known', 'Text', 'same', in plain words. -/
import Derived.Test.YtcabcedlnikbaaaDoorLexLink
import Derived.Test.YtcabcedlnikbaaaDoorQ4
namespace Go.Proofs.YtcabcedlnikbaaaDoor.Q
open Go.RowKit Go.Proofs.YtcabcedlnikbaaaDoorW.PrintWords Go.Proofs.YtcabcedlnikbaaaDoorW.PrintLast Go.Proofs.YtcabcedlnikbaaaDoorW.PrintMore Go.Proofs.YtcabcedlnikbaaaDoor.Lx
set_option linter.unusedVariables false
set_option linter.unusedSimpArgs false

theorem law5_known_f : deadboltlaw5_known.f = some true := by decide +kernel

theorem lx_len : ∀ (l : List UInt8) (i e : Nat) (ts : List Tk), lx l i e = .ok ts → ts.length ≤ l.length
  | [], i, e, ts, h => by simp only [lx, Res.ok.injEq] at h; subst h; simp
  | c :: r, i, e, ts, h => by
    have hc : ∀ t x, Res.cons t x = .ok ts → ∃ m, x = .ok m ∧ ts = t :: m := by
      intro t x hx
      cases x with
      | bad _ => simp [Res.cons] at hx
      | ok m => exact ⟨m, rfl, by simpa [Res.cons] using hx.symm⟩
    have step : ∀ t e', Res.cons t (lx r (i + 1) e') = .ok ts → ts.length ≤ (c :: r).length := by
      intro t e' hx
      obtain ⟨m, hm, rfl⟩ := hc _ _ hx
      have := lx_len r (i + 1) e' m hm
      simpa using this
    rw [lx] at h
    split at h
    · have := lx_len r (i + 1) e ts h
      simp; omega
    · split at h
      · exact step _ _ h
      · split at h
        · exact step _ _ h
        · split at h
          · exact step _ _ h
          · simp at h

theorem lex_Tokens_len {s : ByteArray} {r : List Tok × Int × Int} (h : lex_Tokens.f s = some r) : r.1.length ≤ 2000 := by
  rw [lex_Tokens_f] at h
  split at h
  · obtain rfl := Option.some.inj h
    simp
  · rename_i hs
    obtain rfl := Option.some.inj h
    cases hx : lx s.data.toList 0 0 with
    | bad i => simp [toRes]
    | ok ts =>
      have := lx_len _ _ _ _ hx
      simp only [toRes, List.nil_append, List.length_map]
      have e : s.data.toList.length = s.size := by simp
      omega

theorem same_refl (l : List Tok) (hl : l.length ≤ 2000) : EvS (fun k => deadboltlaw5_same.f k l l) true := by
  have : ∀ (d i : Nat), l.length - i = d → i ≤ l.length → EvS (fun k => deadboltlaw5_same.l0 k l l (i : Int)) true := by
    intro d
    induction d with
    | zero =>
      intro i hd hi
      refine EvS.succ ?_
      simp only [deadboltlaw5_same.l0]
      exact EvS.if_neg (by omega) (.some_ _)
    | succ d ih =>
      intro i hd hi
      have hw : wrap64 ((i : Int) + 1) = ((i + 1 : Nat) : Int) := by rw [w64 (by omega)]; omega
      refine EvS.succ ?_
      simp only [deadboltlaw5_same.l0]
      refine EvS.if_pos (by omega) (EvS.if_pos (by omega) (EvS.if_pos (by omega) (EvS.if_neg (by simp) ?_)))
      rw [hw]
      exact ih (i + 1) (by omega) (by omega)
  unfold deadboltlaw5_same.f
  exact EvS.if_pos rfl (this _ 0 rfl (by omega))

/-- the pieces of Text -/
def pcs : List (List UInt8) := [[123], [125], [32], [120], [108], [109, 97, 105, 110], [117, 115, 101, 32], [115, 101, 116, 32], [108, 111, 99, 107, 32], [117, 110, 108, 111, 99, 107, 32], [99, 97, 108, 108, 32], [115, 112, 97, 119, 110, 32], [105, 102, 32], [101, 108, 115, 101, 32], [108, 111, 111, 112, 32], [118, 97, 114, 32], [102, 117, 110, 99, 32], [102, 32], [57], [10], [9], [65], [109, 50], [97, 98, 99, 100, 101, 102, 103, 104, 105, 106, 107, 108, 109]]
def pc (n : Int) : List UInt8 := pcs.getD (n % 24).toNat []
def txt (l : List Int) : List UInt8 := (l.take 150).flatMap pc
theorem pc_len (n : Int) : (pc n).length ≤ 13 := by
  have : ∀ j, j < 24 → (pcs.getD j []).length ≤ 13 := by decide
  exact this _ (by omega)
theorem txt_len (l : List Int) : (txt l).length ≤ 1950 := by
  have : ∀ (m : List Int), (m.flatMap pc).length ≤ 13 * m.length := by
    intro m
    induction m with
    | nil => simp
    | cons a r ih => have := pc_len a; simp only [List.flatMap_cons, List.length_append, List.length_cons]; omega
  have h := this (l.take 150)
  have : (l.take 150).length ≤ 150 := by simp; omega
  unfold txt
  omega

theorem ba_app (a b : List UInt8) : (⟨a.toArray⟩ : ByteArray) ++ ⟨b.toArray⟩ = ⟨(a ++ b).toArray⟩ := by
  apply ba_ext
  simp

theorem rdOf_ba (ps : List (List UInt8)) (i : Int) (h0 : 0 ≤ i) (h : i < ps.length) : rdOf ByteArray.empty (ps.map fun l => (⟨l.toArray⟩ : ByteArray)) i = ⟨(ps.getD i.toNat []).toArray⟩ := by
  unfold rdOf
  have hl : i.toNat < ps.length := by omega
  simp [List.getD_eq_getElem?_getD, List.getElem?_eq_getElem hl]

theorem Text_ev (l : List Int) (hl : l.length ≤ 9223372036854775807) : EvS (fun k => deadboltlaw5_Text.f k l) ⟨(txt l).toArray⟩ := by
  have H : ∀ (d i : Nat), min 150 l.length - i = d → i ≤ min 150 l.length → EvS (fun k => deadboltlaw5_Text.l0 k l ⟨((l.take i).flatMap pc).toArray⟩ (i : Int)) ⟨(txt l).toArray⟩ := by
    intro d
    induction d with
    | zero =>
      intro i hd hi
      have e : txt l = (l.take i).flatMap pc := by
        unfold txt
        by_cases h : i < 150
        · rw [List.take_of_length_le (show l.length ≤ 150 by omega), List.take_of_length_le (show l.length ≤ i by omega)]
        · rw [show i = 150 by omega]
      rw [e]
      refine EvS.succ ?_
      simp only [deadboltlaw5_Text.l0]
      by_cases h : (i : Int) < l.length
      · exact EvS.if_pos h (EvS.if_neg (by omega) (.some_ _))
      · exact EvS.if_neg h (.some_ _)
    | succ d ih =>
      intro i hd hi
      have hw : wrap64 ((i : Int) + 1) = ((i + 1 : Nat) : Int) := by rw [w64 (by omega)]; omega
      have hlt : i < l.length := by omega
      have hrd : rd l (i : Int) = l[i] := by simp [rd, List.getD_eq_getElem?_getD, List.getElem?_eq_getElem hlt]
      have hsz : ((l.take i).flatMap pc).length ≤ 1950 := by
        have h := txt_len (l.take i)
        unfold txt at h
        rwa [List.take_take, show min 150 i = i by omega] at h
      have hp := pc_len l[i]
      have hs2 : ∀ m : List UInt8, (⟨m.toArray⟩ : ByteArray).size = m.length := fun m => by simp [ByteArray.size]
      have ht : (l.take (i + 1)).flatMap pc = (l.take i).flatMap pc ++ pc l[i] := by
        rw [List.take_succ_eq_append_getElem hlt, List.flatMap_append]
        simp
      refine EvS.succ ?_
      simp only [deadboltlaw5_Text.l0]
      refine EvS.if_pos (by omega) (EvS.if_pos (by omega) (EvS.bind1 (a := pcs.map fun l => (⟨l.toArray⟩ : ByteArray)) rfl (EvS.if_pos (by omega) (EvS.bind1 (within_f _ 24 (by decide) (by decide)) (EvS.if_pos (by omega) (EvS.if_pos ?_ ?_))))))
      · simp only [List.length_map]
        show rd l (i : Int) % 24 < 24
        omega
      · rw [rdOf_ba pcs _ (by omega) (by show rd l (i : Int) % 24 < 24; omega), hrd, hw]
        refine EvS.if_pos ?_ ?_
        · rw [hs2, hs2]
          show _ + (pc l[i]).length ≤ _
          omega
        · have := ih (i + 1) (by omega) (by omega)
          rw [ht] at this
          rw [ba_app]
          exact this
  unfold deadboltlaw5_Text.f
  have := H _ 0 rfl (by omega)
  exact this

/-! ### names -/
theorem sgnRow_all : ∀ l : List UInt8, decide (sgnRow l = l.length) = l.all signB
  | [] => rfl
  | c :: r => by
    have ih := sgnRow_all r
    simp only [sgnRow, List.length_cons, List.all_cons]
    by_cases h : signB c = true
    · simp [h, ih]
    · simp [h]

def wordsBA : List ByteArray := wordsC.map fun l => ⟨l.toArray⟩
theorem word_ev (s : ByteArray) : EvS (fun k => deadboltref4_word.f k s) (wordsC.contains s.data.toList) := by
  have H : ∀ (d i : Nat), 11 - i = d → i ≤ 11 → EvS (fun k => deadboltref4_word.l0 k s wordsBA (i : Int)) ((wordsC.drop i).contains s.data.toList) := by
    have hl : wordsBA.length = 11 := rfl
    have hl' : wordsC.length = 11 := rfl
    intro d
    induction d with
    | zero =>
      intro i hd hi
      obtain rfl : i = 11 := by omega
      refine EvS.succ ?_
      simp only [deadboltref4_word.l0]
      exact EvS.if_neg (by rw [hl]; omega) (.some_ _)
    | succ d ih =>
      intro i hd hi
      have hw : wrap64 ((i : Int) + 1) = ((i + 1 : Nat) : Int) := by rw [w64 (by omega)]; omega
      have hlt : i < wordsC.length := by omega
      refine EvS.succ ?_
      simp only [deadboltref4_word.l0]
      refine EvS.if_pos (by rw [hl]; omega) (EvS.if_pos (by omega) ?_)
      rw [wordsBA, rdOf_ba wordsC _ (by omega) (by omega), ByteArray.toList_eq, ByteArray.toList_eq, List.drop_eq_getElem_cons hlt]
      have hg : wordsC.getD (i : Int).toNat [] = wordsC[i] := by simp [List.getD_eq_getElem?_getD, List.getElem?_eq_getElem hlt]
      simp only [hg, List.contains_cons]
      by_cases h : s.data.toList = wordsC[i]
      · refine EvS.if_pos (by simpa using h) ?_
        rw [beq_iff_eq.2 h]
        exact .some_ _
      · refine EvS.if_neg (by simpa using h) ?_
        rw [beq_eq_false_iff_ne.2 h, Bool.false_or, hw]
        exact ih (i + 1) (by omega) (by omega)
  unfold deadboltref4_word.f
  exact H 11 0 rfl (by omega)

theorem sign_parts (c : UInt8) : signB c = (decide (97 ≤ (c.toNat : Int)) && decide ((c.toNat : Int) ≤ 122) || decide (48 ≤ (c.toNat : Int)) && decide ((c.toNat : Int) ≤ 57)) := (sign_int c).symm

theorem name_l0 (s : ByteArray) (hs : s.size ≤ 12) : ∀ (d i : Nat), s.size - i = d → i ≤ s.size → EvS (fun k => deadboltref4_Name.l0 k s (i : Int)) ((s.data.toList.drop i).all signB) := by
  intro d
  induction d with
  | zero =>
    intro i hd hi
    refine EvS.succ ?_
    simp only [deadboltref4_Name.l0]
    rw [List.drop_of_length_le (by simp; omega)]
    exact EvS.if_neg (by omega) (.some_ _)
  | succ d ih =>
    intro i hd hi
    have hlt : i < s.size := by omega
    have hw : wrap64 ((i : Int) + 1) = ((i + 1 : Nat) : Int) := by rw [w64 (by omega)]; omega
    have nx := ih (i + 1) (by omega) (by omega)
    have hsp := sign_parts s[i]
    refine EvS.succ ?_
    simp only [deadboltref4_Name.l0]
    refine EvS.if_pos (by omega) (EvS.if_pos (by omega) ?_)
    rw [bt_nat s i hlt, hw, drop_cons s i hlt, List.all_cons]
    have yes : signB s[i] = true → EvS (fun k => deadboltref4_Name.l0 k s ((i + 1 : Nat) : Int)) (signB s[i] && (s.data.toList.drop (i + 1)).all signB) := fun h => by rw [h, Bool.true_and]; exact nx
    have no : signB s[i] = false → EvS (fun _ => some false) (signB s[i] && (s.data.toList.drop (i + 1)).all signB) := fun h => by rw [h]; exact .some_ _
    by_cases h1 : (s[i].toNat : Int) < 97
    · refine EvS.if_pos h1 ?_
      by_cases h2 : (s[i].toNat : Int) < 48
      · exact EvS.if_pos h2 (no (by rw [hsp, decide_eq_false (by omega : ¬ 97 ≤ (s[i].toNat : Int)), decide_eq_false (by omega : ¬ 48 ≤ (s[i].toNat : Int))]; rfl))
      · refine EvS.if_neg h2 ?_
        by_cases h3 : (s[i].toNat : Int) > 57
        · exact EvS.if_pos h3 (no (by rw [hsp, decide_eq_false (by omega : ¬ 97 ≤ (s[i].toNat : Int)), decide_eq_false (by omega : ¬ (s[i].toNat : Int) ≤ 57)]; simp))
        · exact EvS.if_neg h3 (yes (by rw [hsp, decide_eq_true (by omega : 48 ≤ (s[i].toNat : Int)), decide_eq_true (by omega : (s[i].toNat : Int) ≤ 57)]; simp))
    · refine EvS.if_neg h1 ?_
      by_cases h2 : (s[i].toNat : Int) > 122
      · refine EvS.if_pos h2 (EvS.if_neg (by omega) (EvS.if_pos (by omega) (no (by rw [hsp, decide_eq_false (by omega : ¬ (s[i].toNat : Int) ≤ 122), decide_eq_false (by omega : ¬ (s[i].toNat : Int) ≤ 57)]; simp))))
      · exact EvS.if_neg h2 (yes (by rw [hsp, decide_eq_true (by omega : 97 ≤ (s[i].toNat : Int)), decide_eq_true (by omega : (s[i].toNat : Int) ≤ 122)]; simp))

/-- the document's names are the code's -/
theorem Name_ev (s : ByteArray) : EvS (fun k => deadboltref5_Name.f k s) (nameB s.data.toList) := by
  have base : EvS (fun k => deadboltref4_Name.f k s) (nameB s.data.toList) := by
    have jt : ∀ r : Bool, r = false → EvS (fun k => deadboltref4_Name.j0 k s true) r := fun r h => by
      subst h
      refine EvS.succ ?_
      simp only [deadboltref4_Name.j0]
      exact EvS.if_pos trivial (.some_ _)
    unfold deadboltref4_Name.f
    by_cases h0 : (s.size : Int) < 1
    · refine EvS.if_pos h0 (jt _ ?_)
      have e0 : s.data.toList = [] := List.eq_nil_of_length_eq_zero (by rw [Array.length_toList]; show s.size = 0; omega)
      rw [e0]; rfl
    have hcons : s.data.toList = s[0] :: s.data.toList.drop 1 := by simpa using drop_cons s 0 (by omega)
    have hlen : (s.data.toList.drop 1).length + 1 = s.size := by simp; omega
    by_cases h12 : (s.size : Int) > 12
    · refine EvS.if_neg h0 (EvS.if_pos h12 (jt _ ?_))
      rw [hcons]
      simp only [nameB]
      rw [decide_eq_false (by omega : ¬ (s.data.toList.drop 1).length < 12)]
      rfl
    have hn : nameB s.data.toList = (letterB s[0] && s.data.toList.all signB && !(wordsC.contains s.data.toList)) := by
      rw [hcons]
      simp only [nameB]
      rw [decide_eq_true (by omega : (s.data.toList.drop 1).length < 12), ← sgnRow_all]
      simp
    refine EvS.if_neg h0 (EvS.if_neg h12 (EvS.bind (word_ev s) ?_))
    by_cases hwd : wordsC.contains s.data.toList = true
    · refine EvS.if_pos hwd (jt _ ?_)
      rw [hn, hwd]
      simp
    · refine EvS.if_neg hwd (EvS.if_pos (by omega) ?_)
      have hb : bt s 0 = (s[0].toNat : Int) := bt_nat s 0 (by omega)
      refine EvS.succ ?_
      simp only [deadboltref4_Name.j0]
      rw [hb]
      have hwd' : wordsC.contains s.data.toList = false := by simpa using hwd
      have hli := letter_int s[0]
      by_cases h97 : (s[0].toNat : Int) < 97
      · refine EvS.if_pos (by simpa using h97) ?_
        have : letterB s[0] = false := by rw [← hli, decide_eq_false (by omega : ¬ (97 : Int) ≤ (s[0].toNat : Int))]; rfl
        rw [hn, this]
        exact .some_ _
      · refine EvS.if_neg (by simpa using h97) ?_
        have nx := name_l0 s (by omega) _ 0 rfl (by omega)
        rw [List.drop_zero] at nx
        have e : nameB s.data.toList = s.data.toList.all signB := by
          rw [hn, hwd']
          cases ha : s.data.toList.all signB with
          | false => simp
          | true =>
            have hs0 : signB s[0] = true := by rw [hcons, List.all_cons, Bool.and_eq_true] at ha; exact ha.1
            rw [sign_parts] at hs0
            have : letterB s[0] = true := by
              rw [← hli]
              simp only [Bool.or_eq_true, Bool.and_eq_true, decide_eq_true_eq] at hs0 ⊢
              omega
            rw [this]; rfl
        rw [e]
        exact nx
  unfold deadboltref5_Name.f
  exact EvS.bind base (.some_ _)
theorem lex_Name_f (s : ByteArray) : lex_Name.f s = some (nameB s.data.toList) := rfl
end Go.Proofs.YtcabcedlnikbaaaDoor.Q
