/- LexFirst: the first byte that may not be is told, whatever is behind it. In plain words; no condition beyond the row's own. -/
import Derived.Test.YtcabcedlnikbaaaDoorLexLaw
import Derived.Test.YtcabcedlnikbaaaDoorQ9
namespace Go.Proofs.YtcabcedlnikbaaaDoor.Pure
open Go.RowKit Go.Proofs.YtcabcedlnikbaaaDoor.Q Go.Proofs.YtcabcedlnikbaaaDoor.Lx Go.Proofs.YtcabcedlnikbaaaDoorW.PrintWords Go.Proofs.YtcabcedlnikbaaaDoorW.PrintLast

def ps5 : List (List UInt8) := [[123], [125], [120, 32], [102, 117, 110, 99, 32], [32]]
def bads : List (List UInt8) := [[33], [65], [45], [13], [0], [59], [195, 169], [95]]
def p5 (n : Int) : List UInt8 := ps5.getD (n % 5).toNat []
theorem p5_mem (n : Int) : ∃ j, j < 5 ∧ p5 n = ps5.getD j [] := ⟨(n % 5).toNat, by omega, rfl⟩
/-- all its bytes may be, and it ends between tokens -/
def fine (l : List UInt8) : Prop := (∃ ts, lx l 0 0 = .ok ts) ∧ ∀ b, apart l b
theorem fine_nil : fine [] := ⟨⟨[], rfl⟩, apart_nil⟩
theorem fine_p5 (n : Int) : fine (p5 n) := by
  obtain ⟨j, hj, e⟩ := p5_mem n
  rw [e]
  have h : ∀ j, j < 5 → (∃ x, (ps5.getD j []).getLast? = some x ∧ signB x = false) ∧ (match lx (ps5.getD j []) 0 0 with | .ok _ => True | .bad _ => False) := by
    intro j hj
    match j, hj with
    | 0, _ => exact ⟨⟨123, rfl, rfl⟩, trivial⟩
    | 1, _ => exact ⟨⟨125, rfl, rfl⟩, trivial⟩
    | 2, _ => exact ⟨⟨32, rfl, rfl⟩, trivial⟩
    | 3, _ => exact ⟨⟨32, rfl, rfl⟩, trivial⟩
    | 4, _ => exact ⟨⟨32, rfl, rfl⟩, trivial⟩
  obtain ⟨⟨x, h1, h2⟩, h3⟩ := h j hj
  refine ⟨?_, fun b => apart_last h1 h2⟩
  cases hx : lx (ps5.getD j []) 0 0 with
  | bad i => rw [hx] at h3; exact h3.elim
  | ok ts => exact ⟨ts, rfl⟩
theorem fine_app {a b : List UInt8} (ha : fine a) (hb : fine b) : fine (a ++ b) := by
  obtain ⟨⟨ts, h1⟩, h2⟩ := ha
  obtain ⟨⟨us, h3⟩, h4⟩ := hb
  refine ⟨⟨ts ++ us.map (Tk.shift (0 + a.length)), ?_⟩, ?_⟩
  · rw [lx_app a b 0 0 (h2 b) (by omega), h1, lx_at, h3]; rfl
  · intro c x hx y hy
    cases b with
    | nil => exact h2 c x (by simpa using hx) y hy
    | cons d r => exact h4 c x (by simpa using hx) y hy
theorem p5_len (n : Int) : (p5 n).length ≤ 5 := by
  obtain ⟨j, hj, e⟩ := p5_mem n
  rw [e]
  have h : ∀ j, j < 5 → (ps5.getD j []).length ≤ 5 := by decide
  exact h j hj

theorem bad_at (j : Nat) (hj : j < 8) (raw : List UInt8) (i : Nat) : lx (bads.getD j [] ++ raw) i 0 = .bad i := by
  have h : ∀ c : UInt8, (blankB c || c == 123 || c == 125 || letterB c) = false → ∀ r, lx (c :: r) i 0 = .bad i := by
    intro c hc r
    simp only [Bool.or_eq_false_iff, beq_eq_false_iff_ne] at hc
    obtain ⟨⟨⟨h1, h2⟩, h3⟩, h4⟩ := hc
    rw [lx, if_neg (by simp [h1]), if_neg h2, if_neg h3, if_neg (by simp [h4])]
  match j, hj with
  | 0, _ => exact h _ (by decide) _
  | 1, _ => exact h _ (by decide) _
  | 2, _ => exact h _ (by decide) _
  | 3, _ => exact h _ (by decide) _
  | 4, _ => exact h _ (by decide) _
  | 5, _ => exact h _ (by decide) _
  | 6, _ => exact h _ (by decide) _
  | 7, _ => exact h _ (by decide) _

/-- what the law asks in the end -/
theorem first_end (x7 : List UInt8) (h7 : fine x7) (hl : x7.length ≤ 200) (x1 : Int) (x2 : ByteArray) (h2 : x2.size ≤ 200) :
    EvS (fun _ : Nat => ((some ((bads.map fun l => (⟨l.toArray⟩ : ByteArray)) : List ByteArray)).bind fun y287 => ((deadboltlaw5_within.f x1 8).bind fun t290 => (if 0 ≤ t290 then (if t290 < (y287.length : Int) then (if (⟨x7.toArray⟩ : ByteArray).size + 1 ≤ 9223372036854775807 then (if ((⟨x7.toArray⟩ : ByteArray) ++ (⟨#[32]⟩ : ByteArray)).size + (rdOf ByteArray.empty y287 t290).size ≤ 9223372036854775807 then (if (((⟨x7.toArray⟩ : ByteArray) ++ (⟨#[32]⟩ : ByteArray)) ++ (rdOf ByteArray.empty y287 t290)).size + x2.size ≤ 9223372036854775807 then ((lex_Tokens.f ((((⟨x7.toArray⟩ : ByteArray) ++ (⟨#[32]⟩ : ByteArray)) ++ (rdOf ByteArray.empty y287 t290)) ++ x2)).bind fun bt292 => (if bt292.2.2 = 6 then (if bt292.2.1 = (wrap64 (((⟨x7.toArray⟩ : ByteArray).size : Int) + 1)) then (some ((bt292.1.length : Int) == 0)) else (some false)) else (some false))) else (none)) else (none)) else (none)) else (none)) else (none))))) true := by
  obtain ⟨j, hj, hj'⟩ : ∃ j : Nat, j < 8 ∧ x1 % 8 = (j : Int) := ⟨(x1 % 8).toNat, by omega, by omega⟩
  have hrd : rdOf ByteArray.empty (bads.map fun l => (⟨l.toArray⟩ : ByteArray)) (j : Int) = ⟨(bads.getD j []).toArray⟩ := rdOf_ba bads _ (by omega) (by show (j : Int) < 8; omega)
  have hs2 : ∀ m : List UInt8, (⟨m.toArray⟩ : ByteArray).size = m.length := fun m => by simp [ByteArray.size]
  have hbl : (bads.getD j []).length ≤ 2 := by
    have h : ∀ j, j < 8 → (bads.getD j []).length ≤ 2 := by decide
    exact h j hj
  have e1 : (⟨x7.toArray⟩ : ByteArray) ++ (⟨#[32]⟩ : ByteArray) = ⟨(x7 ++ [32]).toArray⟩ := ba_app x7 [32]
  have e2 : (⟨(x7 ++ [32]).toArray⟩ : ByteArray) ++ ⟨(bads.getD j []).toArray⟩ = ⟨(x7 ++ [32] ++ bads.getD j []).toArray⟩ := ba_app _ _
  refine EvS.bind1 rfl (EvS.bind1 (within_f x1 8 (by decide) (by decide)) ?_)
  rw [hj', hrd, e1, e2]
  have hsz : ((⟨(x7 ++ [32] ++ bads.getD j []).toArray⟩ : ByteArray) ++ x2).size ≤ 403 := by
    rw [ByteArray.size_append, hs2 (x7 ++ [32] ++ bads.getD j [])]; simp only [List.length_append, List.length_cons, List.length_nil]; omega
  have hd : ((⟨(x7 ++ [32] ++ bads.getD j []).toArray⟩ : ByteArray) ++ x2).data.toList = (x7 ++ [32]) ++ (bads.getD j [] ++ x2.data.toList) := by simp
  have h32 : fine [32] := ⟨⟨[], rfl⟩, fun b => apart_last (x := 32) rfl (by decide)⟩
  obtain ⟨⟨ts, hts⟩, hap⟩ := fine_app h7 h32
  have hlx : lx (((⟨(x7 ++ [32] ++ bads.getD j []).toArray⟩ : ByteArray) ++ x2).data.toList) 0 0 = .bad (x7.length + 1) := by
    rw [hd, lx_app _ _ 0 0 (hap _) (by omega), hts, bad_at j hj]
    simp [Res.app]
  refine EvS.if_pos (by omega) (EvS.if_pos (by show (j : Int) < 8; omega) (EvS.if_pos (by rw [hs2]; omega) (EvS.if_pos (by rw [hs2, hs2]; simp only [List.length_append, List.length_cons, List.length_nil]; omega) (EvS.if_pos (by rw [hs2]; simp only [List.length_append, List.length_cons, List.length_nil]; omega) ?_))))
  refine EvS.bind1 (a := ([], ((x7.length + 1 : Nat) : Int), 6)) ?_ (EvS.if_pos rfl (EvS.if_pos ?_ (.some_ _)))
  · rw [lex_Tokens_f, if_neg (by omega), hlx]; rfl
  · rw [hs2, w64 (by omega)]
    show ((x7.length + 1 : Nat) : Int) = _
    omega

theorem LexFirst : deadboltlaw5_LexFirst.Pure := by
  intro l0 a1 a2 hl _ _ h1 h2
  apply EvS.exists_
  unfold deadboltlaw5_LexFirst.f
  refine EvS.bind1 law5_known_f (EvS.if_pos rfl ?_)
  by_cases hb : (a2.size : Int) > 200
  · exact EvS.if_pos hb (.some_ _)
  have hl' : l0.length ≤ 9223372036854775807 := by simpa [maxLen] using hl
  refine EvS.if_neg hb ?_
  have H : ∀ (d i : Nat) (x7 : List UInt8), 40 - i = d → i ≤ 40 → fine x7 → x7.length ≤ 5 * i → EvS (fun k => deadboltlaw5_LexFirst.l0 k l0 a1 a2 ⟨x7.toArray⟩ (i : Int)) true := by
    intro d
    induction d with
    | zero =>
      intro i x7 hd hi hf hx
      refine EvS.succ ?_
      simp only [deadboltlaw5_LexFirst.l0]
      have fin := first_end x7 hf (by omega) a1 a2 (by omega)
      by_cases h : (i : Int) < l0.length
      · exact EvS.if_pos h (EvS.if_neg (by omega) fin)
      · exact EvS.if_neg h fin
    | succ d ih =>
      intro i x7 hd hi hf hx
      have hw : wrap64 ((i : Int) + 1) = ((i + 1 : Nat) : Int) := by rw [w64 (by omega)]; omega
      refine EvS.succ ?_
      simp only [deadboltlaw5_LexFirst.l0]
      by_cases h : (i : Int) < l0.length
      · have hrd : rdOf ByteArray.empty (ps5.map fun l => (⟨l.toArray⟩ : ByteArray)) (rd l0 (i : Int) % 5) = ⟨(p5 (rd l0 (i : Int))).toArray⟩ := rdOf_ba ps5 _ (by omega) (by show _ % 5 < 5; omega)
        have hs2 : ∀ m : List UInt8, (⟨m.toArray⟩ : ByteArray).size = m.length := fun m => by simp [ByteArray.size]
        have hp := p5_len (rd l0 (i : Int))
        refine EvS.if_pos h (EvS.if_pos (by omega) (EvS.bind1 (a := ps5.map fun l => (⟨l.toArray⟩ : ByteArray)) rfl (EvS.if_pos (by omega) (EvS.bind1 (within_f _ 5 (by decide) (by decide)) (EvS.if_pos (by omega) (EvS.if_pos (by show _ % 5 < 5; omega) ?_))))))
        rw [hrd, hw, ba_app, hs2, hs2]
        exact EvS.if_pos (by omega) (ih (i + 1) _ (by omega) (by omega) (fine_app hf (fine_p5 _)) (by simp; omega))
      · exact EvS.if_neg h (first_end x7 hf (by omega) a1 a2 (by omega))
  exact H 40 0 [] rfl (by omega) fine_nil (by simp)
end Go.Proofs.YtcabcedlnikbaaaDoor.Pure
