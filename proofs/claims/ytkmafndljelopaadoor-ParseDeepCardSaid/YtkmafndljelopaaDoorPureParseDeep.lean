/- ParseDeep: twenty blocks may stand within one another, one more may not: the text is told piece by piece, and what the parser makes of it (DeepPure). No condition beyond the row's own. -/
import Derived.Test.YtkmafndljelopaaDoorText6
import Derived.Test.YtkmafndljelopaaDoorDeepPure
import Derived.Test.YtkmafndljelopaaDoorQ13
namespace Go.Proofs.YtkmafndljelopaaDoor.Pure
set_option linter.unusedSimpArgs false
set_option linter.unusedVariables false
open Go.RowKit Go.Proofs.YtkmafndljelopaaDoor.Q Go.Proofs.YtkmafndljelopaaDoor.Lx Go.Proofs.YtkmafndljelopaaDoorW.PrintWords Go.Proofs.YtkmafndljelopaaDoorW.PrintLast

theorem known6 : deadboltlaw6_known.f = some true := by decide +kernel
/-- the way of the i-th block -/
def cK (l : List Int) (i : Nat) : Nat := ((if (i : Int) < l.length then rd l i else (i : Int)) % 3).toNat
def csK (l : List Int) (n : Nat) : List Nat := (List.range n).map (fun j => cK l (j + 1))
def sK (l : List Int) (i : Nat) : List UInt8 := preB ++ (csK l i).flatMap pieceB
def atK (l : List Int) (i : Nat) : Nat := if 20 ≤ i then (sK l 19).length + offB (cK l 20) else 0
theorem cK_lt (l : List Int) (i : Nat) : cK l i < 3 := by unfold cK; omega
theorem csK_succ (l : List Int) (i : Nat) : csK l (i + 1) = csK l i ++ [cK l (i + 1)] := by
  simp [csK, List.range_succ]
theorem sK_succ (l : List Int) (i : Nat) : sK l (i + 1) = sK l i ++ pieceB (cK l (i + 1)) := by
  simp [sK, csK_succ]
theorem piece_len (c : Nat) : (pieceB c).length ≤ 14 := by
  match c with
  | 0 => decide
  | 1 => decide
  | _ + 2 => exact (by decide : ([105, 102, 32, 123, 32, 125, 32, 101, 108, 115, 101, 32] ++ [123, 32] : List UInt8).length ≤ 14)
theorem sK_len (l : List Int) : ∀ i, (sK l i).length ≤ 12 + 14 * i
  | 0 => by simp [sK, csK, preB]
  | i + 1 => by
    have h1 := sK_len l i
    have h2 := piece_len (cK l (i + 1))
    rw [sK_succ, List.length_append]
    omega
theorem endB_len : ∀ m, (endB m).length = 2 * m
  | 0 => rfl
  | m + 1 => by rw [endB, List.length_append, endB_len m]; simp; omega
theorem endB_snoc : ∀ m, endB (m + 1) = endB m ++ [125, 32]
  | 0 => rfl
  | m + 1 => by
    show [125, 32] ++ endB (m + 1) = ([125, 32] ++ endB m) ++ [125, 32]
    rw [endB_snoc m, List.append_assoc]
theorem take_csK (l : List Int) (n : Nat) (h : 20 ≤ n) : csK l n = csK l 19 ++ (cK l 20 :: (List.range (n - 20)).map (fun j => cK l (j + 21))) := by
  obtain ⟨m, rfl⟩ : ∃ m, n = m + 20 := ⟨n - 20, by omega⟩
  rw [Nat.add_sub_cancel]
  induction m with
  | zero => rw [show 0 + 20 = 19 + 1 from rfl, csK_succ]; rfl
  | succ m ih =>
    rw [show m + 1 + 20 = (m + 20) + 1 by omega, csK_succ, ih (by omega), List.range_succ]
    simp [Nat.add_assoc]
theorem failK_app : ∀ (d : Nat) (a : List Nat) (c : Nat) (b : List Nat) (i : Nat), a.length = d → failK d (a ++ c :: b) i = i + (a.flatMap pieceB).length + offB c
  | 0, [], c, b, i, _ => by simp [failK]
  | 0, _ :: _, _, _, _, h => by simp at h
  | d + 1, [], _, _, _, h => by simp at h
  | d + 1, x :: r, c, b, i, h => by
    have ih := failK_app d r c b (i + (pieceB x).length) (by simpa using h)
    simp only [List.cons_append, failK, List.flatMap_cons, List.length_append, ih]
    omega
theorem csK_len (l : List Int) (n : Nat) : (csK l n).length = n := by simp [csK]
/-- the whole text -/
def wK (l : List Int) (n : Nat) : List UInt8 := sK l n ++ endB (n + 1)
theorem tokens_wK (l : List Int) (n : Nat) (hn : n ≤ 25) : lex_Tokens.f ⟨(wK l n).toArray⟩ = some ((preK ++ (bodyK (csK l n) 12 ++ endK (n + 1) (12 + ((csK l n).flatMap pieceB).length))).map mkTok, 0, 0) := by
  have h1 := sK_len l n
  have h2 : (wK l n).length ≤ 2000 := by rw [wK, List.length_append, endB_len]; omega
  rw [lex_Tokens_f, if_neg (by show ¬ (wK l n).toArray.size > 2000; rw [List.size_toArray]; omega)]
  show some (toRes [] (lx (wK l n) 0 0)) = _
  rw [wK, sK, List.append_assoc, lx_allB]
  rfl
theorem nameMain : nameB ([109, 97, 105, 110] : List UInt8) = true := by decide
/-- the first declaration -/
theorem decl_main (e : Int) (bl : List Tok6 → Out (List St6)) (rest : List Tok6) (p : P6) :
    declW e bl (⟨1, 0, funcT⟩ :: ⟨1, 5, ⟨#[109, 97, 105, 110]⟩⟩ :: rest) p = match bl rest with
      | .bad a b => .bad a b
      | .ok A r2 => .ok ⟨p.vs, p.ls, p.fs ++ [⟨⟨#[109, 97, 105, 110]⟩, 0, A⟩]⟩ r2 := by
  unfold declW
  rw [show nx (⟨1, 0, funcT⟩ :: ⟨1, 5, ⟨#[109, 97, 105, 110]⟩⟩ :: rest) e = ⟨1, 0, funcT⟩ from rfl, if_neg (by decide), if_neg (by decide), if_pos rfl]
  unfold nameW
  rw [List.tail_cons, show nx (⟨1, 5, ⟨#[109, 97, 105, 110]⟩⟩ :: rest) e = ⟨1, 5, ⟨#[109, 97, 105, 110]⟩⟩ from rfl, if_pos ⟨rfl, nameMain⟩, List.tail_cons]
  cases h : bl rest <;> simp only [h]
theorem endK_len : ∀ m i, (endK m i).length = m
  | 0, _ => rfl
  | m + 1, i => by rw [endK, List.length_cons, endK_len m]
theorem toks_len (cs : List Nat) (n j : Nat) : n + 4 ≤ ((preK ++ (bodyK cs 12 ++ endK (n + 1) j)).map mkTok).length := by
  rw [List.length_map, List.length_append, List.length_append, endK_len, show preK.length = 3 from rfl]
  omega
/-- parse.Parse on tokens that begin with 'func main {' -/
theorem parse_main {s : ByteArray} {R : List Tk} (ht : lex_Tokens.f s = some ((preK ++ R).map mkTok, 0, 0)) {n : Nat} (hn : n + 4 ≤ ((preK ++ R).map mkTok).length) :
    ∃ N, n + 1 ≤ N ∧ parse_Parse.f s = match (match stmtsP (s.size : Int) N 1 (R.map mkTok) with
      | .bad a b => .bad a b
      | .ok A r2 => progP (s.size : Int) N N r2 ⟨[], [], [⟨⟨#[109, 97, 105, 110]⟩, 0, A⟩]⟩ : Out P6) with
      | .ok p _ => some (p.vs, p.ls, p.fs, 0, 0)
      | .bad a b => some ([], [], [], a, b) := by
  refine ⟨((preK ++ R).map mkTok).length, by omega, ?_⟩
  unfold parse_Parse.f
  rw [ht]
  generalize hN : ((preK ++ R).map mkTok).length = N
  simp only []
  rw [if_neg (by decide)]
  have hl : (preK ++ R).map mkTok = ⟨1, 0, funcT⟩ :: ⟨1, 5, ⟨#[109, 97, 105, 110]⟩⟩ :: ⟨2, 10, ⟨#[]⟩⟩ :: R.map mkTok := rfl
  rw [hN, hl]
  simp only [progP]
  rw [decl_main, bl_open _ _ _ _ (by decide)]
  show (match (match (match stmtsP (s.size : Int) N (0 + 1) (R.map mkTok) with | .bad a b => Out.bad a b | .ok A r2 => .ok ⟨[], [], [] ++ [⟨⟨#[109, 97, 105, 110]⟩, 0, A⟩]⟩ r2 : Out P6) with | .bad a b => Out.bad a b | .ok p' r' => progP _ N N r' p' : Out P6) with | .ok p _ => some (p.vs, p.ls, p.fs, (0 : Int), (0 : Int)) | .bad a b => some ([], [], [], a, b)) = _
  rw [show (0 : Int) + 1 = 1 from rfl]
  cases stmtsP (s.size : Int) N 1 (R.map mkTok) with
  | bad a b => rfl
  | ok A r => rfl
theorem parse_deep_bad (l : List Int) (n : Nat) (hn : n ≤ 25) (h : 20 ≤ n) : parse_Parse.f ⟨(wK l n).toArray⟩ = some ([], [], [], (((sK l 19).length + offB (cK l 20) : Nat) : Int), 8) := by
  obtain ⟨N, hN, hp⟩ := parse_main (tokens_wK l n hn) (toks_len _ n _)
  rw [hp, List.map_append]
  have hb := deep_bad ((⟨(wK l n).toArray⟩ : ByteArray).size : Int) (csK l n) 12 N 19 ((endK (n + 1) (12 + ((csK l n).flatMap pieceB).length)).map mkTok) (by rw [csK_len]; omega) (by rw [csK_len]; omega) (by decide)
  rw [show (20 : Int) - ((19 : Nat) : Int) = 1 from rfl] at hb
  rw [hb]
  simp only []
  rw [take_csK l n h, failK_app 19 _ _ _ _ (csK_len l 19), sK, List.length_append, show preB.length = 12 from rfl]
theorem parse_deep_ok (l : List Int) (n : Nat) (h : n < 20) : ∃ A, parse_Parse.f ⟨(wK l n).toArray⟩ = some ([], [], [⟨⟨#[109, 97, 105, 110]⟩, 0, A⟩], 0, 0) := by
  obtain ⟨N, hN, hp⟩ := parse_main (tokens_wK l n (by omega)) (toks_len _ n _)
  obtain ⟨A, hA⟩ := deep_ok ((⟨(wK l n).toArray⟩ : ByteArray).size : Int) (csK l n) 12 (12 + ((csK l n).flatMap pieceB).length) 0 N 1 (by rw [csK_len]; omega) (by rw [csK_len]; omega)
  refine ⟨A, ?_⟩
  rw [csK_len] at hA
  rw [hp, hA]
  obtain ⟨M, rfl⟩ : ∃ m, N = m + 1 := ⟨N - 1, by omega⟩
  rfl

/-! ### the law -/
theorem rdOf_piece (c : Nat) (h : c < 3) : rdOf ByteArray.empty ([(⟨#[105, 102, 32]⟩ : ByteArray), (⟨#[108, 111, 111, 112, 32]⟩ : ByteArray), (⟨#[105, 102, 32, 123, 32, 125, 32, 101, 108, 115, 101, 32]⟩ : ByteArray)] : List ByteArray) (c : Int) = ⟨(vB c).toArray⟩ := by
  match c, h with
  | 0, _ => rfl
  | 1, _ => rfl
  | 2, _ => rfl
theorem vB_len (c : Nat) : (vB c).length ≤ 12 := by
  match c with
  | 0 => decide
  | 1 => decide
  | _ + 2 => exact (by decide : ([105, 102, 32, 123, 32, 125, 32, 101, 108, 115, 101, 32] : List UInt8).length ≤ 12)
theorem l1_ev (l : List Int) (n : Nat) (hn : n ≤ 25) (at_ : Int) (hat : 20 ≤ n → at_ = (((sK l 19).length + offB (cK l 20) : Nat) : Int)) : ∀ (d i : Nat), n + 1 - i = d → i ≤ n + 1 → EvS (fun k => deadboltlaw6_ParseDeep.l1 k (n : Int) ⟨(sK l n ++ endB i).toArray⟩ at_ (i : Int)) true
  | 0, i, hd, hi => by
    obtain rfl : i = n + 1 := by omega
    refine EvS.succ ?_
    simp only [deadboltlaw6_ParseDeep.l1]
    refine EvS.if_neg (by omega) ?_
    show EvS (fun _ => (parse_Parse.f ⟨(wK l n).toArray⟩).bind _) true
    by_cases h : 20 ≤ n
    · rw [parse_deep_bad l n hn h]
      refine .of fun _ => ?_
      simp only [Option.bind_some]
      rw [if_pos (by omega), if_pos trivial, if_pos (hat h).symm]
      rfl
    · obtain ⟨A, hA⟩ := parse_deep_ok l n (by omega)
      rw [hA]
      refine .of fun _ => ?_
      simp only [Option.bind_some]
      rw [if_neg (by omega), if_pos trivial, if_pos trivial]
      rfl
  | d + 1, i, hd, hi => by
    have ih := l1_ev l n hn at_ hat d (i + 1) (by omega) (by omega)
    refine EvS.succ ?_
    simp only [deadboltlaw6_ParseDeep.l1]
    have h1 := sK_len l n
    have hs : (⟨(sK l n ++ endB i).toArray⟩ : ByteArray).size = (sK l n ++ endB i).length := by show (sK l n ++ endB i).toArray.size = _; rw [List.size_toArray]
    refine EvS.if_pos (by omega) (EvS.if_pos (by rw [hs, List.length_append, endB_len]; omega) ?_)
    rw [show (⟨#[125, 32]⟩ : ByteArray) = ⟨([125, 32] : List UInt8).toArray⟩ from rfl, ba_app, List.append_assoc, ← endB_snoc, w64 (by omega)]
    exact ih

theorem l0_ev (l : List Int) (hl : l.length ≤ 140737488351232) (n : Nat) (hn : n ≤ 25) : ∀ (d i : Nat), n - i = d → i ≤ n → EvS (fun k => deadboltlaw6_ParseDeep.l0 k (n : Int) l ⟨(sK l i).toArray⟩ (atK l i : Int) ((i + 1 : Nat) : Int)) true
  | 0, i, hd, hi => by
    obtain rfl : i = n := by omega
    refine EvS.succ ?_
    simp only [deadboltlaw6_ParseDeep.l0]
    refine EvS.if_neg (by omega) ?_
    have h := l1_ev l i hn (atK l i : Int) (fun h => by rw [atK, if_pos h]) (i + 1) 0 (by omega) (by omega)
    rw [show endB 0 = [] from rfl, List.append_nil] at h
    exact h
  | d + 1, i, hd, hi => by
    have ih := l0_ev l hl n hn d (i + 1) (by omega) (by omega)
    have hc := cK_lt l (i + 1)
    have hv := vB_len (cK l (i + 1))
    have h1 := sK_len l i
    have hj : ∀ x8 : Int, x8 % 3 = (cK l (i + 1) : Int) → EvS (fun k => deadboltlaw6_ParseDeep.j1 k (n : Int) l ⟨(sK l i).toArray⟩ (atK l i : Int) ((i + 1 : Nat) : Int) x8) true := by
      intro x8 h8
      refine EvS.succ ?_
      simp only [deadboltlaw6_ParseDeep.j1]
      refine EvS.bind1 rfl (EvS.bind1 (within6_f x8 3 (by decide) (by decide)) ?_)
      rw [h8]
      have hs : (⟨(sK l i).toArray⟩ : ByteArray).size = (sK l i).length := by show (sK l i).toArray.size = _; rw [List.size_toArray]
      refine EvS.if_pos (by omega) (EvS.if_pos (by show ((cK l (i + 1) : Nat) : Int) < 3; omega) ?_)
      rw [rdOf_piece _ hc]
      have hv2 : (⟨(vB (cK l (i + 1))).toArray⟩ : ByteArray).size = (vB (cK l (i + 1))).length := by show (vB _).toArray.size = _; rw [List.size_toArray]
      have hs2 : (⟨(sK l i ++ vB (cK l (i + 1))).toArray⟩ : ByteArray).size = (sK l i).length + (vB (cK l (i + 1))).length := by show (sK l i ++ vB _).toArray.size = _; rw [List.size_toArray, List.length_append]
      refine EvS.if_pos (by rw [hs, hv2]; omega) ?_
      rw [ba_app]
      have hap : (⟨(sK l i ++ vB (cK l (i + 1))).toArray⟩ : ByteArray) ++ (⟨#[123, 32]⟩ : ByteArray) = ⟨(sK l (i + 1)).toArray⟩ := by
        rw [show (⟨#[123, 32]⟩ : ByteArray) = ⟨([123, 32] : List UInt8).toArray⟩ from rfl, ba_app, sK_succ, pieceB, List.append_assoc]
      have hb : (⟨(sK l i ++ vB (cK l (i + 1))).toArray⟩ : ByteArray).size + 2 ≤ 9223372036854775807 := by rw [hs2]; omega
      have HW : Aside0 (wrap64 (((i + 1 : Nat) : Int) + 1) = ((i + 1 + 1 : Nat) : Int)) := Aside0.mk (by rw [w64 (by omega)]; omega)
      by_cases h20 : i + 1 = 20
      · have h20i : ((i + 1 : Nat) : Int) = 20 := by omega
        have HAT : Aside0 ((atK l (i + 1) : Int) = if cK l (i + 1) = 2 then wrap64 (((⟨(sK l i ++ vB (cK l (i + 1))).toArray⟩ : ByteArray).size : Int) - 9) else ((⟨(sK l i ++ vB (cK l (i + 1))).toArray⟩ : ByteArray).size : Int)) := Aside0.mk (by
          rw [hs2, h20, atK, if_pos (Nat.le_refl _)]
          obtain rfl : i = 19 := by omega
          have hc' := hc
          rw [h20] at hc'
          match cK l 20, hc' with
          | 0, _ => rfl
          | 1, _ => rfl
          | 2, _ =>
            rw [if_pos rfl, w64 (by show _ ∧ _; simp only [vB, List.length_cons, List.length_nil]; omega)]
            simp only [vB, offB, List.length_cons, List.length_nil]
            omega)
        refine EvS.if_pos h20i (EvS.bind1 (within6_f x8 3 (by decide) (by decide)) ?_)
        rw [h8]
        by_cases h2 : cK l (i + 1) = 2
        · refine EvS.if_pos (by omega) (EvS.if_pos hb ?_)
          have hat := HAT.out
          rw [if_pos h2] at hat
          rw [hap, HW.out, ← hat]
          exact ih
        · refine EvS.if_neg (by omega) (EvS.if_pos hb ?_)
          have hat := HAT.out
          rw [if_neg h2] at hat
          rw [hap, HW.out, ← hat]
          exact ih
      · refine EvS.if_neg (by omega) (EvS.if_pos hb ?_)
        have hat : atK l i = atK l (i + 1) := by
          unfold atK
          by_cases h : 20 ≤ i
          · rw [if_pos h, if_pos (by omega)]
          · rw [if_neg h, if_neg (by omega)]
        rw [hap, HW.out, hat]
        exact ih
    refine EvS.succ ?_
    simp only [deadboltlaw6_ParseDeep.l0]
    refine EvS.if_pos (by omega) ?_
    by_cases hlt : ((i + 1 : Nat) : Int) < (l.length : Int)
    · refine EvS.if_pos hlt (EvS.if_pos (by omega) (hj _ ?_))
      unfold cK
      rw [if_pos hlt]
      omega
    · refine EvS.if_neg hlt (hj _ ?_)
      unfold cK
      rw [if_neg hlt]
      omega
theorem ParseDeep : deadboltlaw6_ParseDeep.Pure := by
  intro a0 l1 _ _ hl _
  obtain ⟨n, hn, hn'⟩ : ∃ n : Nat, n ≤ 25 ∧ a0 % 26 = (n : Int) := ⟨(a0 % 26).toNat, by omega, by omega⟩
  refine EvS.exists_ ?_
  simp only [deadboltlaw6_ParseDeep.f]
  refine EvS.bind1 known6 (EvS.if_pos rfl (EvS.bind1 (within6_f a0 26 (by decide) (by decide)) ?_))
  rw [hn']
  exact l0_ev l1 (by omega) n hn n 0 (by omega) (by omega)
end Go.Proofs.YtkmafndljelopaaDoor.Pure
