/- LexBlanks: blanks, tabs, line feeds between tokens do not count, but for places. In plain words; no condition beyond the row's own. -/
import Derived.Test.YtcabcedlnikbaaaDoorLexLaw
import Derived.Test.YtcabcedlnikbaaaDoorQ8
namespace Go.Proofs.YtcabcedlnikbaaaDoor.Pure
open Go.RowKit Go.Proofs.YtcabcedlnikbaaaDoor.Q Go.Proofs.YtcabcedlnikbaaaDoor.Lx Go.Proofs.YtcabcedlnikbaaaDoorW.PrintWords Go.Proofs.YtcabcedlnikbaaaDoorW.PrintLast

def wd5 : List (List UInt8) := [[123], [125], [120], [102, 117, 110, 99], [97, 49]]
def bl4 : List (List UInt8) := [[32], [10], [9], [32, 32, 10]]
def key5 : List (Nat × List UInt8) := [(2, []), (3, []), (1, [120]), (1, [102, 117, 110, 99]), (1, [97, 49])]
def key (t : Tk) : Nat × List UInt8 := (t.kind, t.txt)

theorem piece (j b : Nat) (hj : j < 5) (hb : b < 4) (i : Nat) : ∃ p, lx (bl4.getD b [] ++ wd5.getD j []) i 0 = .ok [⟨(key5.getD j (0, [])).1, p, (key5.getD j (0, [])).2⟩] := by
  have h : ∀ j, j < 5 → ∀ b, b < 4 → ∃ p, p < 5 ∧ lx (bl4.getD b [] ++ wd5.getD j []) 0 0 = .ok [⟨(key5.getD j (0, [])).1, p, (key5.getD j (0, [])).2⟩] := by decide
  obtain ⟨p, _, hp⟩ := h j hj b hb
  exact ⟨p + i, by rw [lx_at, hp]; rfl⟩
theorem piece_head (j b : Nat) (hb : b < 4) (a : List UInt8) : apart a (bl4.getD b [] ++ wd5.getD j []) := by
  match b, hb with
  | 0, _ => exact apart_head (y := 32) rfl (by decide)
  | 1, _ => exact apart_head (y := 10) rfl (by decide)
  | 2, _ => exact apart_head (y := 9) rfl (by decide)
  | 3, _ => exact apart_head (y := 32) rfl (by decide)
theorem lens (j b : Nat) (hj : j < 5) (hb : b < 4) : (wd5.getD j []).length ≤ 4 ∧ (bl4.getD b []).length ≤ 3 := by
  have h1 : ∀ j, j < 5 → (wd5.getD j []).length ≤ 4 := by decide
  have h2 : ∀ b, b < 4 → (bl4.getD b []).length ≤ 3 := by decide
  exact ⟨h1 j hj, h2 b hb⟩

/-- two texts whose tokens are the same, as many as n -/
def Alike (n : Nat) (s t : List UInt8) : Prop := ∃ ts us : List Tk, lx s 0 0 = .ok ts ∧ lx t 0 0 = .ok us ∧ ts.map key = us.map key ∧ ts.length = n
theorem Alike.step {n : Nat} {s t : List UInt8} (h : Alike n s t) (j b c : Nat) (hj : j < 5) (hb : b < 4) (hc : c < 4) : Alike (n + 1) (s ++ (bl4.getD b [] ++ wd5.getD j [])) (t ++ (bl4.getD c [] ++ wd5.getD j [])) := by
  obtain ⟨ts, us, h1, h2, h3, h4⟩ := h
  obtain ⟨p, hp⟩ := piece j b hj hb (0 + s.length)
  obtain ⟨q, hq⟩ := piece j c hj hc (0 + t.length)
  refine ⟨_, _, by rw [lx_app _ _ 0 0 (piece_head j b hb s) (by omega), h1, hp]; rfl, by rw [lx_app _ _ 0 0 (piece_head j c hc t) (by omega), h2, hq]; rfl, ?_, ?_⟩
  · simp only [List.map_append, h3]; rfl
  · simp [h4]

theorem rdTok (l : List Tok) (i : Nat) (h : i < l.length) : rd_T39 l (i : Int) = l[i] := by
  simp [rd_T39, List.getD_eq_getElem?_getD, List.getElem?_eq_getElem h]

theorem name_a1 : EvS (fun k => deadboltref5_Name.f k (⟨#[97, 49]⟩ : ByteArray)) true := by
  have := Name_ev (⟨#[97, 49]⟩ : ByteArray)
  have e : nameB (⟨#[97, 49]⟩ : ByteArray).data.toList = true := by decide
  rwa [e] at this

theorem Blanks_l1 (x0 : List Int) (hx0 : x0.length ≤ 9223372036854775807) (ts us : List Tk) (hk : ts.map key = us.map key) (hl : ts.length = min x0.length 40) : ∀ (d i : Nat), ts.length - i = d → i ≤ ts.length →
    EvS (fun k => deadboltlaw5_LexBlanks.l1 k x0 (ts.map mkTok) (us.map mkTok) (i : Int)) true := by
  have hlen : ts.length = us.length := by simpa using congrArg List.length hk
  intro d
  induction d with
  | zero =>
    intro i hd hi
    refine EvS.succ ?_
    simp only [deadboltlaw5_LexBlanks.l1]
    refine EvS.if_neg (by simp; omega) (EvS.if_pos ?_ (EvS.bind name_a1 (.some_ _)))
    simp only [List.length_map, hl]
    unfold mn
    omega
  | succ d ih =>
    intro i hd hi
    have hw : wrap64 ((i : Int) + 1) = ((i + 1 : Nat) : Int) := by rw [w64 (by omega)]; omega
    have h1 : i < ts.length := by omega
    have h2 : i < us.length := by omega
    have hki : key ts[i] = key us[i] := by
      have := congrArg (fun l => l[i]?) hk
      simpa [List.getElem?_eq_getElem h1, List.getElem?_eq_getElem h2] using this
    simp only [key, Prod.mk.injEq] at hki
    refine EvS.succ ?_
    simp only [deadboltlaw5_LexBlanks.l1]
    rw [rdTok _ i (by simpa using h1), rdTok _ i (by simpa using h2)]
    refine EvS.if_pos (by simp; omega) (EvS.if_pos (by omega) (EvS.if_pos (by simp; omega) (EvS.if_pos ?_ (EvS.if_pos ?_ ?_))))
    · simp [mkTok, hki.1]
    · simp [mkTok, hki.2]
    · rw [hw]
      exact ih (i + 1) (by omega) (by omega)

theorem blanks_end (x0 x1 : List Int) (hx0 : x0.length ≤ 9223372036854775807) (n : Nat) (x5 x6 : List UInt8) (x7 : Int) (hA : Alike n x5 x6) (h5 : x5.length ≤ 2000) (h6 : x6.length ≤ 2000) (hn : n = min x0.length 40) :
    EvS (fun k => deadboltlaw5_LexBlanks.j1 k x0 x1 ⟨x5.toArray⟩ ⟨x6.toArray⟩ x7 false) true := by
  obtain ⟨ts, us, h1, h2, h3, h4⟩ := hA
  have hs2 : ∀ m : List UInt8, (⟨m.toArray⟩ : ByteArray).size = m.length := fun m => by simp [ByteArray.size]
  have e1 : lex_Tokens.f ⟨x5.toArray⟩ = some (ts.map mkTok, 0, 0) := by rw [lex_Tokens_f, if_neg (by rw [hs2]; omega)]; simp [h1, toRes]
  have e2 : lex_Tokens.f ⟨x6.toArray⟩ = some (us.map mkTok, 0, 0) := by rw [lex_Tokens_f, if_neg (by rw [hs2]; omega)]; simp [h2, toRes]
  have hlen : ts.length = us.length := by simpa using congrArg List.length h3
  refine EvS.succ ?_
  simp only [deadboltlaw5_LexBlanks.j1]
  refine EvS.if_neg (by simp) (EvS.bind1 e1 (EvS.bind1 e2 (EvS.if_pos rfl (EvS.if_pos rfl ?_))))
  refine EvS.succ ?_
  simp only [deadboltlaw5_LexBlanks.j2]
  refine EvS.if_neg (by simp [hlen]) ?_
  exact Blanks_l1 x0 hx0 ts us h3 (by omega) _ 0 rfl (by omega)

theorem LexBlanks : deadboltlaw5_LexBlanks.Pure := by
  intro l0 l1 hl _ _ hl1 _ _
  apply EvS.exists_
  unfold deadboltlaw5_LexBlanks.f
  refine EvS.bind1 law5_known_f (EvS.if_pos rfl ?_)
  have hl' : l0.length ≤ 9223372036854775807 := by simpa [maxLen] using hl
  have hs2 : ∀ m : List UInt8, (⟨m.toArray⟩ : ByteArray).size = m.length := fun m => by simp [ByteArray.size]
  have H : ∀ (d i : Nat) (x5 x6 : List UInt8), min l0.length 40 - i = d → i ≤ min l0.length 40 → Alike i x5 x6 → x5.length ≤ 7 * i → x6.length ≤ 7 * i → EvS (fun k => deadboltlaw5_LexBlanks.l0 k l0 l1 ⟨x5.toArray⟩ ⟨x6.toArray⟩ (i : Int)) true := by
    intro d
    induction d with
    | zero =>
      intro i x5 x6 hd hi hA h5 h6
      have fin := blanks_end l0 l1 hl' i x5 x6 (i : Int) hA (by omega) (by omega) (by omega)
      refine EvS.succ ?_
      simp only [deadboltlaw5_LexBlanks.l0]
      by_cases h : (i : Int) < l0.length
      · refine EvS.if_pos h ?_
        rw [decide_eq_false (by omega)]
        exact fin
      · exact EvS.if_neg h fin
    | succ d ih =>
      intro i x5 x6 hd hi hA h5 h6
      have hw : wrap64 ((i : Int) + 1) = ((i + 1 : Nat) : Int) := by rw [w64 (by omega)]; omega
      have hlt : (i : Int) < l0.length := by omega
      obtain ⟨j, hj, hj'⟩ : ∃ j : Nat, j < 5 ∧ rd l0 (i : Int) % 5 = (j : Int) := ⟨(rd l0 (i : Int) % 5).toNat, by omega, by omega⟩
      have hrd : rdOf ByteArray.empty (wd5.map fun l => (⟨l.toArray⟩ : ByteArray)) (j : Int) = ⟨(wd5.getD j []).toArray⟩ := rdOf_ba wd5 _ (by omega) (by show (j : Int) < 5; omega)
      have e1 : (⟨x5.toArray⟩ : ByteArray) ++ (⟨#[32]⟩ : ByteArray) = ⟨(x5 ++ [32]).toArray⟩ := ba_app x5 [32]
      have nx : ∀ c, c < 4 → EvS (fun k => deadboltlaw5_LexBlanks.l0 k l0 l1 ⟨((x5 ++ [32]) ++ wd5.getD j []).toArray⟩ ⟨((x6 ++ bl4.getD c []) ++ wd5.getD j []).toArray⟩ ((i + 1 : Nat) : Int)) true := by
        intro c hc
        have hA2 := hA.step j 0 c hj (by decide) hc
        obtain ⟨q1, q2⟩ := lens j c hj hc
        have := ih (i + 1) _ _ (by omega) (by omega) hA2 (by simp only [List.length_append]; have : (bl4.getD 0 []).length = 1 := rfl; omega) (by simp only [List.length_append]; omega)
        simpa [bl4] using this
      refine EvS.succ ?_
      simp only [deadboltlaw5_LexBlanks.l0]
      refine EvS.if_pos hlt ?_
      rw [decide_eq_true (by omega)]
      refine EvS.succ ?_
      simp only [deadboltlaw5_LexBlanks.j1]
      refine EvS.if_pos trivial (EvS.bind1 (a := wd5.map fun l => (⟨l.toArray⟩ : ByteArray)) rfl (EvS.if_pos (by omega) (EvS.if_pos hlt (EvS.bind1 (within_f _ 5 (by decide) (by decide)) (EvS.if_pos (by omega) (EvS.if_pos (by show _ % 5 < 5; omega) ?_))))))
      rw [hj', hrd, e1]
      have tail : ∀ v : Int, EvS (fun k => ((some ((bl4.map fun l => (⟨l.toArray⟩ : ByteArray)) : List ByteArray)).bind fun y255 => ((deadboltlaw5_within.f v 4).bind fun t258 => (if 0 ≤ t258 then (if t258 < (y255.length : Int) then (if (⟨x6.toArray⟩ : ByteArray).size + (rdOf ByteArray.empty y255 t258).size ≤ 9223372036854775807 then (if ((⟨x6.toArray⟩ : ByteArray) ++ (rdOf ByteArray.empty y255 t258)).size + (⟨(wd5.getD j []).toArray⟩ : ByteArray).size ≤ 9223372036854775807 then (deadboltlaw5_LexBlanks.l0 k l0 l1 (⟨(x5 ++ [32]).toArray⟩ ++ (⟨(wd5.getD j []).toArray⟩ : ByteArray)) (((⟨x6.toArray⟩ : ByteArray) ++ (rdOf ByteArray.empty y255 t258)) ++ (⟨(wd5.getD j []).toArray⟩ : ByteArray)) (wrap64 ((i : Int) + 1))) else (none)) else (none)) else (none)) else (none))))) true := by
        intro v
        obtain ⟨c, hc, hc'⟩ : ∃ c : Nat, c < 4 ∧ v % 4 = (c : Int) := ⟨(v % 4).toNat, by omega, by omega⟩
        obtain ⟨q1, q2⟩ := lens j c hj hc
        have hrc : rdOf ByteArray.empty (bl4.map fun l => (⟨l.toArray⟩ : ByteArray)) (c : Int) = ⟨(bl4.getD c []).toArray⟩ := rdOf_ba bl4 _ (by omega) (by show (c : Int) < 4; omega)
        refine EvS.bind1 rfl (EvS.bind1 (within_f v 4 (by decide) (by decide)) (EvS.if_pos (by omega) (EvS.if_pos (by show _ % 4 < 4; omega) ?_)))
        rw [hc', hrc, ba_app x6, ba_app (x5 ++ [32]), ba_app (x6 ++ bl4.getD c []), hs2 x6, hs2 (bl4.getD c []), hs2 (x6 ++ bl4.getD c []), hs2 (wd5.getD j []), hw]
        exact EvS.if_pos (by omega) (EvS.if_pos (by simp only [List.length_append]; omega) (nx c hc))
      obtain ⟨q1, _⟩ := lens j 0 hj (by decide)
      by_cases h1 : (i : Int) < l1.length
      · refine EvS.if_pos h1 (EvS.if_pos (by rw [hs2]; omega) (EvS.if_pos (by rw [hs2, hs2]; simp only [List.length_append, List.length_cons, List.length_nil]; omega) (tail _)))
      · refine EvS.if_neg h1 (EvS.if_pos (by rw [hs2]; omega) (EvS.if_pos (by rw [hs2, hs2]; simp only [List.length_append, List.length_cons, List.length_nil]; omega) (tail _)))
  exact H _ 0 [] [] rfl (by omega) ⟨[], [], rfl, rfl, rfl, rfl⟩ (by simp) (by simp)
end Go.Proofs.YtcabcedlnikbaaaDoor.Pure
