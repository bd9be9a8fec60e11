/- What the code of lex, and the document's, come to, in the plain words of tokens. -/
import Derived.Test.YtcabcedlnikbaaaDoorLexTok
import Derived.Test.YtcabcedlnikbaaaDoorLexName
import Derived.Test.YtcabcedlnikbaaaDoorLexPure
import Derived.Test.YtcabcedlnikbaaaDoorEv
import Derived.Test.YtcabcedlnikbaaaDoorQ2
import Derived.Test.YtcabcedlnikbaaaDoorQ3
import Derived.Test.YtcabcedlnikbaaaDoorQ3
import Derived.Test.YtcabcedlnikbaaaDoorQ2
import Derived.Test.YtcabcedlnikbaaaDoorQ2
namespace Go.Proofs.YtcabcedlnikbaaaDoor.Q
open Go.RowKit Go.Proofs.YtcabcedlnikbaaaDoorW.PrintWords Go.Proofs.YtcabcedlnikbaaaDoorW.PrintLast Go.Proofs.YtcabcedlnikbaaaDoorW.PrintMore Go.Proofs.YtcabcedlnikbaaaDoor.Lx
set_option linter.unusedVariables false
set_option linter.unusedSimpArgs false

def mkTok (t : Tk) : Tok := ⟨(t.kind : Int), (t.at_ : Int), ⟨t.txt.toArray⟩⟩
def toRes (acc : List Tok) : Res → List Tok × Int × Int
  | .bad i => ([], (i : Int), 6)
  | .ok l => (acc ++ l.map mkTok, 0, 0)

theorem ba_ext {a b : ByteArray} (h : a.data.toList = b.data.toList) : a = b := by
  cases a; cases b
  simp only [ByteArray.mk.injEq]
  exact Array.ext' h
theorem extract_mk (s : ByteArray) (i n : Nat) : s.extract i (i + n) = ⟨((s.data.toList.drop i).take n).toArray⟩ := by
  apply ba_ext
  rw [Lib.extract_data, show i + n - i = n by omega]

theorem tokScan_lx (s : ByteArray) : ∀ (l : List UInt8) (i e : Nat) (acc : List Tok), l = s.data.toList.drop i → tokScan s l i e acc = toRes acc (lx l i e)
  | [], i, e, acc, _ => by simp [tokScan, lx, toRes]
  | c :: r, i, e, acc, hl => by
    have hr : r = s.data.toList.drop (i + 1) := by
      rw [← List.drop_drop, ← hl]
      rfl
    have ih := fun e acc => tokScan_lx s r (i + 1) e acc hr
    have hcons : ∀ t acc x, toRes acc (Res.cons t x) = toRes (acc ++ [mkTok t]) x := by
      intro t acc x
      cases x <;> simp [toRes, Res.cons]
    rw [tokScan, lx]
    split
    · exact ih _ _
    · split
      · rw [hcons, ih]; rfl
      · split
        · rw [hcons, ih]; rfl
        · split
          · rw [hcons, ih, extract_mk, ← hl]; rfl
          · rfl

/-- lex.Tokens, in plain words -/
theorem lex_Tokens_f (s : ByteArray) : lex_Tokens.f s = if s.size > 2000 then some ([], 0, 2) else some (toRes [] (lx s.data.toList 0 0)) := by
  rw [lex_Tokens.f, tokScan_lx s s.data.toList 0 0 [] (by simp)]

theorem within_f (a n : Int) (hn : 0 < n) (hn' : n ≤ 9223372036854775807) : deadboltlaw5_within.f a n = some (a % n) := by
  unfold deadboltlaw5_within.f
  rw [if_neg (by omega)]
  have h1 := Int.tmod_lt_of_pos a hn
  have h2 : -n < Int.tmod a n := by
    have := Int.tmod_lt_of_pos (-a) hn
    rw [Int.neg_tmod] at this
    omega
  have h3 : a % n = Int.tmod a n % n := by
    conv => lhs; rw [← Int.tmod_add_mul_tdiv a n]
    rw [Int.add_mul_emod_self_left]
  by_cases h : Int.tmod a n < 0
  · rw [if_pos h, w64 (by omega), h3, ← Int.add_emod_right, Int.emod_eq_of_lt (by omega) (by omega)]
  · rw [if_neg h, h3, Int.emod_eq_of_lt (by omega) h1]

theorem bt_nat (s : ByteArray) (i : Nat) (h : i < s.size) : bt s (i : Int) = (s[i].toNat : Int) := by
  unfold bt
  rw [dif_pos (by simpa using h)]
  rfl

theorem lx_skip (l : List UInt8) : ∀ (d j e : Nat), e - j = d → j ≤ e → e ≤ l.length → lx (l.drop j) j e = lx (l.drop e) e 0
  | 0, j, e, h, h1, h2 => by
    obtain rfl : j = e := by omega
    exact lx_end _ _ _ _ (Nat.le_refl _) (by omega)
  | d + 1, j, e, h, h1, h2 => by
    rw [List.drop_eq_getElem_cons (show j < l.length by omega), lx, if_pos (.inl (by omega))]
    exact lx_skip l d (j + 1) e (by omega) (by omega) h2

theorem ref5_letter_f (c : UInt8) : deadboltref5_letter.f (c.toNat : Int) = some (letterB c) := by
  rw [← letter_int]
  unfold deadboltref5_letter.f
  by_cases h : 97 ≤ (c.toNat : Int) <;> simp [h]
theorem ref5_digit_f (c : UInt8) : deadboltref5_digit.f (c.toNat : Int) = some (decide (48 ≤ c) && decide (c ≤ 57)) := by
  have e : (decide (48 ≤ c) && decide (c ≤ 57)) = (decide (48 ≤ (c.toNat : Int)) && decide ((c.toNat : Int) ≤ 57)) := by
    rw [Bool.eq_iff_iff]
    simp only [Bool.and_eq_true, decide_eq_true_eq, UInt8.le_iff_toNat_le]
    simp
    omega
  rw [e]
  unfold deadboltref5_digit.f
  by_cases h : 48 ≤ (c.toNat : Int) <;> simp [h]

theorem ref5_l1 (s : ByteArray) (hs : s.size ≤ 2000) (i : Nat) (acc : List Tok) (ha : acc.length ≤ i)
    (H : ∀ e (acc' : List Tok), i < e → e ≤ s.size → acc'.length ≤ e → EvS (fun k => deadboltref5_Tokens.l0 k s acc' e) (toRes acc' (lx (s.data.toList.drop e) e 0))) :
    ∀ (d j : Nat), s.size - j = d → i < j → j ≤ s.size →
      EvS (fun k => deadboltref5_Tokens.l1 k s acc i j) (toRes (acc ++ [⟨1, i, s.extract i (j + sgnRow (s.data.toList.drop j))⟩]) (lx (s.data.toList.drop (j + sgnRow (s.data.toList.drop j))) (j + sgnRow (s.data.toList.drop j)) 0)) := by
  have fin : ∀ j, i < j → j ≤ s.size → EvS (fun k => deadboltref5_Tokens.l0 k s (acc ++ [(⟨1, i, s.extract ((i : Int)).toNat ((j : Int)).toNat⟩ : S39)]) j) (toRes (acc ++ [⟨1, i, s.extract i j⟩]) (lx (s.data.toList.drop j) j 0)) := fun j h1 h2 =>
    H j _ h1 h2 (by simp; omega)
  intro d
  induction d with
  | zero =>
    intro j hd hij hj
    obtain rfl : j = s.size := by omega
    have e0 : sgnRow (s.data.toList.drop s.size) = 0 := by rw [List.drop_of_length_le (by simp)]; rfl
    refine EvS.succ ?_
    simp only [deadboltref5_Tokens.l1]
    rw [e0, Nat.add_zero]
    refine EvS.if_neg (by omega) (EvS.if_pos (by omega) (EvS.if_pos (by omega) (EvS.if_pos (by omega) (EvS.if_pos (by omega) ?_))))
    exact fin s.size hij (Nat.le_refl _)
  | succ d ih =>
    intro j hd hij hj
    have hlt : j < s.size := by omega
    have hcons := drop_cons s j hlt
    have hw : wrap64 ((j : Int) + 1) = ((j + 1 : Nat) : Int) := by rw [w64 (by omega)]; omega
    refine EvS.succ ?_
    simp only [deadboltref5_Tokens.l1]
    refine EvS.if_pos (by omega) (EvS.if_pos (by omega) ?_)
    rw [bt_nat s j hlt, hw]
    have next : signB s[j] = true → EvS (fun k => deadboltref5_Tokens.l1 k s acc i ((j + 1 : Nat) : Int)) (toRes (acc ++ [⟨1, i, s.extract i (j + sgnRow (s.data.toList.drop j))⟩]) (lx (s.data.toList.drop (j + sgnRow (s.data.toList.drop j))) (j + sgnRow (s.data.toList.drop j)) 0)) := by
      intro hsg
      have := ih (j + 1) (by omega) (by omega) (by omega)
      have e1 : j + sgnRow (s.data.toList.drop j) = j + 1 + sgnRow (s.data.toList.drop (j + 1)) := by
        rw [hcons, sgnRow, if_pos hsg]
        omega
      rw [e1]
      exact this
    refine EvS.bind1 (ref5_letter_f s[j]) ?_
    by_cases hl : letterB s[j] = true
    · refine EvS.if_pos hl (next (letter_sign _ hl))
    · refine EvS.if_neg hl (EvS.bind1 (ref5_digit_f s[j]) ?_)
      by_cases hdg : (decide (48 ≤ s[j]) && decide (s[j] ≤ 57)) = true
      · refine EvS.if_pos hdg (next ?_)
        simp only [signB, Bool.or_eq_true]
        exact .inr hdg
      · have hsg : signB s[j] = false := by
          simp only [signB, Bool.or_eq_false_iff]
          exact ⟨by simpa using hl, by simpa using hdg⟩
        refine EvS.if_neg hdg (EvS.if_pos (by omega) (EvS.if_pos (by omega) (EvS.if_pos (by omega) (EvS.if_pos (by omega) ?_))))
        have e1 : j + sgnRow (s.data.toList.drop j) = j := by
          rw [hcons, sgnRow, hsg]
          simp
        rw [e1]
        exact fin j hij hj

theorem ref5_l0 (s : ByteArray) (hs : s.size ≤ 2000) : ∀ (d i : Nat) (acc : List Tok), s.size - i = d → i ≤ s.size → acc.length ≤ i →
    EvS (fun k => deadboltref5_Tokens.l0 k s acc i) (toRes acc (lx (s.data.toList.drop i) i 0)) := by
  intro d
  induction d using Nat.strongRecOn with
  | _ d IH =>
    intro i acc hd hi ha
    by_cases hlt : i < s.size
    · have hcons := drop_cons s i hlt
      have hw : wrap64 ((i : Int) + 1) = ((i + 1 : Nat) : Int) := by rw [w64 (by omega)]; omega
      have hj : ∀ b : Bool, b = blankB s[i] → EvS (fun k => deadboltref5_Tokens.j1 k s acc i (s[i].toNat : Int) ((i + 1 : Nat) : Int) b) (toRes acc (lx (s.data.toList.drop i) i 0)) := by
        intro b hb
        refine EvS.succ ?_
        simp only [deadboltref5_Tokens.j1]
        rw [hcons, lx]
        have n123 := num_eq s[i] 123 (by omega)
        have n125 := num_eq s[i] 125 (by omega)
        have hcons' : ∀ t x, toRes acc (Res.cons t x) = toRes (acc ++ [mkTok t]) x := by
          intro t x
          cases x <;> simp [toRes, Res.cons]
        subst hb
        by_cases hbl : blankB s[i] = true
        · refine EvS.if_pos hbl ?_
          rw [if_pos (.inr hbl)]
          exact IH (s.size - (i + 1)) (by omega) (i + 1) acc rfl (by omega) (by omega)
        · refine EvS.if_neg hbl ?_
          rw [if_neg (by simp [hbl])]
          by_cases h1 : s[i] = 123
          · rw [if_pos h1]
            refine EvS.if_pos (by rw [h1]; rfl) (EvS.if_pos (by omega) ?_)
            rw [hcons']
            exact IH (s.size - (i + 1)) (by omega) (i + 1) _ rfl (by omega) (by simp; omega)
          · rw [if_neg h1]
            refine EvS.if_neg (fun h => h1 (by rw [← UInt8.toNat_inj]; have : ((s[i].toNat : Int)) = _ := h; simp; omega)) ?_
            by_cases h2 : s[i] = 125
            · rw [if_pos h2]
              refine EvS.if_pos (by rw [h2]; rfl) (EvS.if_pos (by omega) ?_)
              rw [hcons']
              exact IH (s.size - (i + 1)) (by omega) (i + 1) _ rfl (by omega) (by simp; omega)
            · rw [if_neg h2]
              refine EvS.if_neg (fun h => h2 (by rw [← UInt8.toNat_inj]; have : ((s[i].toNat : Int)) = _ := h; simp; omega)) (EvS.bind1 (ref5_letter_f s[i]) ?_)
              by_cases h3 : letterB s[i] = true
              · rw [if_pos h3]
                refine EvS.if_pos h3 ?_
                have hrow : sgnRow (s.data.toList.drop i) = sgnRow (s.data.toList.drop (i + 1)) + 1 := by
                  rw [hcons, sgnRow, if_pos (letter_sign _ h3)]
                have hle := sgnRow_le (s.data.toList.drop (i + 1))
                simp only [List.length_drop, Array.length_toList] at hle
                have hle' : sgnRow (s.data.toList.drop (i + 1)) ≤ s.size - (i + 1) := hle
                have := ref5_l1 s hs i acc ha (fun e acc' h1 h2 h3 => IH (s.size - e) (by omega) e acc' rfl h2 h3) _ (i + 1) rfl (by omega) (by omega)
                rw [hcons', ← hcons, lx_skip s.data.toList _ (i + 1) (i + sgnRow (s.data.toList.drop i)) rfl (by omega) (by simp; omega)]
                rw [show i + 1 + sgnRow (s.data.toList.drop (i + 1)) = i + sgnRow (s.data.toList.drop i) by omega, extract_mk] at this
                exact this
              · rw [if_neg h3]
                exact EvS.if_neg h3 (.some_ _)
      refine EvS.succ ?_
      simp only [deadboltref5_Tokens.l0]
      refine EvS.if_pos (by omega) (EvS.if_pos (by omega) ?_)
      rw [bt_nat s i hlt, hw]
      have hbi := blank_int s[i]
      by_cases h1 : (s[i].toNat : Int) = 32
      · exact EvS.if_pos h1 (hj true (by rw [← hbi]; simp [h1]))
      · refine EvS.if_neg h1 ?_
        by_cases h2 : (s[i].toNat : Int) = 9
        · exact EvS.if_pos h2 (hj true (by rw [← hbi]; simp [h2]))
        · refine EvS.if_neg h2 (hj _ ?_)
          rw [← hbi, beq_eq_false_iff_ne.2 h1, beq_eq_false_iff_ne.2 h2]
          rfl
    · refine EvS.succ ?_
      simp only [deadboltref5_Tokens.l0]
      refine EvS.if_neg (by omega) ?_
      rw [List.drop_of_length_le (by simp; omega)]
      simp only [lx, toRes, List.map_nil, List.append_nil]
      exact .some_ _

/-- the document's tokens are the code's -/
theorem ref5_Tokens_ev (s : ByteArray) : ∃ r, lex_Tokens.f s = some r ∧ EvS (fun k => deadboltref5_Tokens.f k s) r := by
  rw [lex_Tokens_f]
  unfold deadboltref5_Tokens.f
  by_cases h : s.size > 2000
  · rw [if_pos h]
    exact ⟨_, rfl, EvS.if_pos (by omega) (.some_ _)⟩
  · rw [if_neg h]
    refine ⟨_, rfl, EvS.if_neg (by omega) ?_⟩
    have := ref5_l0 s (by omega) _ 0 [] rfl (by omega) (by simp)
    simpa using this
end Go.Proofs.YtcabcedlnikbaaaDoor.Q
