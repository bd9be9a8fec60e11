/- LexAgain: tokens, written with a blank between them, are these tokens again; places rise, and tell where each begins. In plain words; no condition beyond the row's own. -/
import Derived.Test.YtcabcedlnikbaaaDoorLexLaw
import Derived.Test.YtcabcedlnikbaaaDoorQ7
namespace Go.Proofs.YtcabcedlnikbaaaDoor.Pure
open Go.RowKit Go.Proofs.YtcabcedlnikbaaaDoor.Q Go.Proofs.YtcabcedlnikbaaaDoor.Lx Go.Proofs.YtcabcedlnikbaaaDoorW.PrintWords Go.Proofs.YtcabcedlnikbaaaDoorW.PrintLast

def akey (t : Tk) : Nat × List UInt8 := (t.kind, t.txt)
theorem ardTok (l : List Tok) (i : Nat) (h : i < l.length) : rd_T39 l (i : Int) = l[i] := by
  simp [rd_T39, List.getD_eq_getElem?_getD, List.getElem?_eq_getElem h]

theorem Again_l1 (ts us : List Tk) (hk : us.map akey = ts.map akey) (hm : ts.length ≤ 9000000) : ∀ (d i : Nat), us.length - i = d → i ≤ us.length →
    EvS (fun k => deadboltlaw5_LexAgain.l1 k (ts.map mkTok) (us.map mkTok) (i : Int)) true := by
  have hlen : us.length = ts.length := by simpa using congrArg List.length hk
  intro d
  induction d with
  | zero =>
    intro i hd hi
    refine EvS.succ ?_
    simp only [deadboltlaw5_LexAgain.l1]
    exact EvS.if_neg (by simp only [List.length_append, List.length_cons, List.length_nil, List.length_map]; omega) (.some_ _)
  | succ d ih =>
    intro i hd hi
    have hw : wrap64 ((i : Int) + 1) = ((i + 1 : Nat) : Int) := by rw [w64 (by omega)]; omega
    have h1 : i < us.length := by omega
    have h2 : i < ts.length := by omega
    have hki : akey us[i] = akey ts[i] := by
      have := congrArg (fun l => l[i]?) hk
      simpa [List.getElem?_eq_getElem h1, List.getElem?_eq_getElem h2] using this
    simp only [akey, Prod.mk.injEq] at hki
    refine EvS.succ ?_
    simp only [deadboltlaw5_LexAgain.l1]
    rw [ardTok _ i (by simpa using h1), ardTok _ i (by simpa using h2)]
    refine EvS.if_pos (by simp only [List.length_append, List.length_cons, List.length_nil, List.length_map]; omega) (EvS.if_pos (by omega) (EvS.if_pos (by simp only [List.length_append, List.length_cons, List.length_nil, List.length_map]; omega) (EvS.if_pos ?_ (EvS.if_pos ?_ ?_))))
    · simp [mkTok, hki.1]
    · simp [mkTok, hki.2]
    · rw [hw]
      exact ih (i + 1) (by omega) (by omega)

theorem word_ne {t : Tk} (h : TkOk t) : t.word ≠ [] := by
  rcases h with ⟨h1, _⟩ | ⟨h1, _⟩ | ⟨h1, c, r, h2, _⟩ <;> simp [Tk.word, *]

theorem Again_l0 (s : ByteArray) (hs : s.size ≤ 2000) (ts : List Tk) (hts : ts.length ≤ 2000) : ∀ (d i e : Nat) (x7 : List UInt8) (us : List Tk), ts.length - i = d → i ≤ ts.length → Along s.data.toList e (ts.drop i) → lx x7 0 0 = .ok us → us.map akey = (ts.take i).map akey → x7.length ≤ 2001 * i →
    EvS (fun k => deadboltlaw5_LexAgain.l0 k s (ts.map mkTok) ⟨x7.toArray⟩ (e : Int) (i : Int)) true := by
  have hs2 : ∀ m : List UInt8, (⟨m.toArray⟩ : ByteArray).size = m.length := fun m => by simp [ByteArray.size]
  intro d
  induction d with
  | zero =>
    intro i e x7 us hd hi hA h7 hk hl
    refine EvS.succ ?_
    simp only [deadboltlaw5_LexAgain.l0]
    refine EvS.if_neg (by simp only [List.length_append, List.length_cons, List.length_nil, List.length_map]; omega) ?_
    by_cases hb : (((⟨x7.toArray⟩ : ByteArray).size : Int)) > 2000
    · exact EvS.if_pos hb (.some_ _)
    refine EvS.if_neg hb ?_
    have e1 : lex_Tokens.f ⟨x7.toArray⟩ = some (us.map mkTok, 0, 0) := by rw [lex_Tokens_f, if_neg (by omega)]; simp [h7, toRes]
    refine EvS.bind1 e1 (EvS.if_pos rfl ?_)
    rw [List.take_of_length_le (by omega)] at hk
    have hlen : us.length = ts.length := by simpa using congrArg List.length hk
    refine EvS.succ ?_
    simp only [deadboltlaw5_LexAgain.j1]
    refine EvS.if_neg (by simp [hlen]) ?_
    exact Again_l1 ts us hk (by omega) _ 0 rfl (by omega)
  | succ d ih =>
    intro i e x7 us hd hi hA h7 hk hl
    have hw : wrap64 ((i : Int) + 1) = ((i + 1 : Nat) : Int) := by rw [w64 (by omega)]; omega
    have hlt : i < ts.length := by omega
    rw [List.drop_eq_getElem_cons hlt] at hA
    obtain ⟨t, ht⟩ : ∃ t, t = ts[i] := ⟨_, rfl⟩
    rw [← ht] at hA
    cases hA with
    | cons a1 a2 a3 a4 a5 =>
    have hsl : s.data.toList.length = s.size := by simp
    rw [hsl] at a2
    have hwl : t.word.length ≤ 2000 := Nat.le_trans (Nat.le_add_left _ _) (Nat.le_trans a2 hs)
    have hat : t.at_ ≤ 2000 := Nat.le_trans (Nat.le_add_right _ _) (Nat.le_trans a2 hs)
    have nx : EvS (fun k => deadboltlaw5_LexAgain.l0 k s (ts.map mkTok) ⟨((x7 ++ [32]) ++ t.word).toArray⟩ ((t.at_ + t.word.length : Nat) : Int) ((i + 1 : Nat) : Int)) true := by
      have e7 : (x7 ++ [32]) ++ t.word = x7 ++ (32 :: t.word) := by simp
      refine ih (i + 1) _ _ (us ++ [⟨t.kind, 0 + x7.length + 1, t.txt⟩]) (by omega) (by omega) a5 ?_ ?_ ?_
      · rw [e7, lx_app _ _ 0 0 (apart_head (y := 32) rfl (by decide)) (by omega), h7, lx_word t a4]; rfl
      · rw [List.take_succ_eq_append_getElem hlt, List.map_append, List.map_append, hk, ← ht]; rfl
      · simp; omega
    have hrd : rd_T39 (ts.map mkTok) (i : Int) = mkTok t := by rw [ardTok _ i (by simpa using hlt), ht]; simp
    have hx : ∀ n, n = t.word.length → (s.extract t.at_ (t.at_ + n)).toList = t.word := by
      intro n hn
      rw [extract_mk, ByteArray.toList_eq, hn]
      exact a3
    have e32 : (⟨x7.toArray⟩ : ByteArray) ++ (⟨#[32]⟩ : ByteArray) = ⟨(x7 ++ [32]).toArray⟩ := ba_app x7 [32]
    refine EvS.succ ?_
    simp only [deadboltlaw5_LexAgain.l0]
    rw [hrd, hw, e32]
    clear hw
    have f0 : (mkTok t).f0 = (t.kind : Int) := rfl
    have f1 : (mkTok t).f1 = (t.at_ : Int) := rfl
    have f2 : (mkTok t).f2 = ⟨t.txt.toArray⟩ := rfl
    rw [f0, f1, f2, hs2 x7, hs2 (x7 ++ [32]), hs2 t.txt]
    have w1 : wrap64 ((t.at_ : Int) + 1) = ((t.at_ + 1 : Nat) : Int) := by rw [w64 (by omega)]; omega
    rw [w1]
    clear w1
    refine EvS.if_pos (by simp only [List.length_append, List.length_cons, List.length_nil, List.length_map]; omega) (EvS.if_pos (by omega) ?_)
    rcases a4 with ⟨k1, k2⟩ | ⟨k1, k2⟩ | ⟨k1, c, r, k2, k3, k4⟩
    · have hwd : t.word = [123] := by simp [Tk.word, k1]
      rw [hwd] at a2 nx hx
      simp only [List.length_cons, List.length_nil, Nat.zero_add] at a2 nx hx
      refine EvS.if_pos (by rw [k1]; rfl) (EvS.if_neg (by omega) (EvS.if_neg (by omega) (EvS.if_pos (by omega) (EvS.if_pos (by omega) (EvS.if_pos (by omega) (EvS.if_pos ?_ (EvS.if_neg (by decide) (EvS.if_pos (by omega) (EvS.if_pos (by simp only [List.length_append, List.length_cons, List.length_nil, List.length_map]; omega) ?_)))))))))
      · rw [Int.toNat_natCast, Int.toNat_natCast]; exact hx 1 rfl
      · exact nx.congr fun k => by rw [ba_app (x7 ++ [32]) [123]]
    · have hwd : t.word = [125] := by simp [Tk.word, k1]
      rw [hwd] at a2 nx hx
      simp only [List.length_cons, List.length_nil, Nat.zero_add] at a2 nx hx
      refine EvS.if_neg (by rw [k1]; decide) (EvS.if_pos (by rw [k1]; rfl) (EvS.if_neg (by omega) (EvS.if_neg (by omega) (EvS.if_pos (by omega) (EvS.if_pos (by omega) (EvS.if_pos (by omega) (EvS.if_pos ?_ (EvS.if_neg (by decide) (EvS.if_pos (by omega) (EvS.if_pos (by simp only [List.length_append, List.length_cons, List.length_nil, List.length_map]; omega) ?_))))))))))
      · rw [Int.toNat_natCast, Int.toNat_natCast]; exact hx 1 rfl
      · exact nx.congr fun k => by rw [ba_app (x7 ++ [32]) [125]]
    · have hwd : t.word = t.txt := by simp [Tk.word, k1]
      rw [hwd] at a2 nx hx hwl
      have w2 : wrap64 ((t.at_ : Int) + (t.txt.length : Int)) = ((t.at_ + t.txt.length : Nat) : Int) := by rw [w64 (by omega)]; omega
      rw [w2]
      clear w2
      refine EvS.if_neg (by rw [k1]; decide) (EvS.if_neg (by rw [k1]; decide) (EvS.if_neg (by omega) (EvS.if_neg (by omega) (EvS.if_pos (by omega) (EvS.if_pos (by omega) (EvS.if_pos (by omega) (EvS.if_pos ?_ (EvS.if_neg ?_ (EvS.if_pos (by omega) (EvS.if_pos (by simp only [List.length_append, List.length_cons, List.length_nil, List.length_map]; omega) ?_))))))))))
      · rw [Int.toNat_natCast, Int.toNat_natCast, hx _ rfl, ByteArray.toList_eq]
      · rw [ByteArray.toList_eq]; simp [k2]
      · exact nx.congr fun k => by rw [ba_app (x7 ++ [32]) t.txt]

theorem LexAgain : deadboltlaw5_LexAgain.Pure := by
  intro l0 hl _ _
  apply EvS.exists_
  unfold deadboltlaw5_LexAgain.f
  have hl' : l0.length ≤ 9223372036854775807 := by simpa [maxLen] using hl
  have hs2 : ∀ m : List UInt8, (⟨m.toArray⟩ : ByteArray).size = m.length := fun m => by simp [ByteArray.size]
  have ht := txt_len l0
  refine EvS.bind1 law5_known_f (EvS.if_pos rfl (EvS.bind (Text_ev l0 hl') ?_))
  have e0 : lex_Tokens.f ⟨(txt l0).toArray⟩ = some (toRes [] (lx (txt l0) 0 0)) := by rw [lex_Tokens_f, if_neg (by rw [hs2]; omega)]
  refine EvS.bind1 e0 ?_
  cases hx : lx (txt l0) 0 0 with
  | bad i => exact EvS.if_neg (by simp [toRes]) (.some_ _)
  | ok ts =>
    have hlen := lx_len _ _ _ _ hx
    have e1 : (toRes [] (.ok ts)) = (ts.map mkTok, (0 : Int), (0 : Int)) := by simp [toRes]
    rw [e1]
    refine EvS.if_pos rfl ?_
    have hA := lx_along (txt l0) _ 0 rfl (by omega) ts (by simpa using hx)
    exact Again_l0 ⟨(txt l0).toArray⟩ (by rw [hs2]; omega) ts (by omega) _ 0 0 [] [] rfl (by omega) (by simpa using hA) rfl rfl (by simp)
end Go.Proofs.YtcabcedlnikbaaaDoor.Pure
