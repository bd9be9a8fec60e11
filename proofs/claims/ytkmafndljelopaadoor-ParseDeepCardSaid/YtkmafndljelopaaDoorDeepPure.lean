/- ParseDeep, the plain half: what blocks within one another are read as. -/
import Derived.Test.YtkmafndljelopaaDoorLxTok
import Derived.Test.YtkmafndljelopaaDoorPar3
namespace Go.Proofs.YtkmafndljelopaaDoor.Q
open Go.RowKit Go.Proofs.YtkmafndljelopaaDoorW.PrintWords Go.Proofs.YtkmafndljelopaaDoorW.PrintLast Go.Proofs.YtkmafndljelopaaDoorW.PrintMore Go.Proofs.YtkmafndljelopaaDoor.Lx
set_option linter.unusedVariables false
set_option linter.unusedSimpArgs false

/-- the three ways to open a block -/
def vB : Nat → List UInt8
  | 0 => [105, 102, 32]
  | 1 => [108, 111, 111, 112, 32]
  | _ => [105, 102, 32, 123, 32, 125, 32, 101, 108, 115, 101, 32]
def pieceB (c : Nat) : List UInt8 := vB c ++ [123, 32]
/-- where its (first) block begins -/
def offB : Nat → Nat
  | 0 => 3
  | 1 => 5
  | _ => 3
def tk0 : Nat → List Tk
  | 0 => [⟨1, 0, [105, 102]⟩, ⟨2, 3, []⟩]
  | 1 => [⟨1, 0, [108, 111, 111, 112]⟩, ⟨2, 5, []⟩]
  | _ => [⟨1, 0, [105, 102]⟩, ⟨2, 3, []⟩, ⟨3, 5, []⟩, ⟨1, 7, [101, 108, 115, 101]⟩, ⟨2, 12, []⟩]
theorem lx_piece (c : Nat) : lx (pieceB c) 0 0 = .ok (tk0 c) := by
  match c with
  | 0 => decide
  | 1 => decide
  | n + 2 =>
    show lx ([105, 102, 32, 123, 32, 125, 32, 101, 108, 115, 101, 32] ++ [123, 32]) 0 0 = .ok [⟨1, 0, [105, 102]⟩, ⟨2, 3, []⟩, ⟨3, 5, []⟩, ⟨1, 7, [101, 108, 115, 101]⟩, ⟨2, 12, []⟩]
    decide
theorem piece_last (c : Nat) : (pieceB c).getLast? = some 32 := by simp [pieceB]
def bodyK : List Nat → Nat → List Tk
  | [], _ => []
  | c :: r, i => (tk0 c).map (Tk.shift i) ++ bodyK r (i + (pieceB c).length)
def endK : Nat → Nat → List Tk
  | 0, _ => []
  | m + 1, i => ⟨3, i, []⟩ :: endK m (i + 2)
def endB : Nat → List UInt8
  | 0 => []
  | m + 1 => [125, 32] ++ endB m
def preB : List UInt8 := [102, 117, 110, 99, 32, 109, 97, 105, 110, 32, 123, 32]
def preK : List Tk := [⟨1, 0, [102, 117, 110, 99]⟩, ⟨1, 5, [109, 97, 105, 110]⟩, ⟨2, 10, []⟩]
theorem lx_endB : ∀ (m i : Nat), lx (endB m) i 0 = .ok (endK m i)
  | 0, _ => rfl
  | m + 1, i => by
    have h0 : lx [125, 32] 0 0 = .ok [⟨3, 0, []⟩] := by decide
    rw [endB, lx_app _ _ i 0 (apart_last (x := 32) rfl (by decide)) (by omega), lx_at, h0]
    rw [show i + ([125, 32] : List UInt8).length = i + 2 from rfl, lx_endB m (i + 2)]
    simp [Res.shift, Res.app, Tk.shift, endK]
theorem lx_bodyB : ∀ (cs : List Nat) (i m : Nat), lx (cs.flatMap pieceB ++ endB m) i 0 = .ok (bodyK cs i ++ endK m (i + (cs.flatMap pieceB).length))
  | [], i, m => by simpa [bodyK] using lx_endB m i
  | c :: r, i, m => by
    rw [List.flatMap_cons, List.append_assoc, lx_app _ _ i 0 (apart_last (x := 32) (piece_last c) (by decide)) (by omega), lx_at, lx_piece, lx_bodyB r (i + (pieceB c).length) m]
    simp only [Res.shift, Res.app, bodyK, List.append_assoc, List.length_append]
    rw [Nat.add_assoc]
theorem lx_allB (cs : List Nat) (m : Nat) : lx (preB ++ (cs.flatMap pieceB ++ endB m)) 0 0 = .ok (preK ++ (bodyK cs 12 ++ endK m (12 + (cs.flatMap pieceB).length))) := by
  have h0 : lx preB 0 0 = .ok preK := by decide
  rw [lx_app _ _ 0 0 (apart_last (x := 32) rfl (by decide)) (by omega), h0, show 0 + preB.length = 12 from rfl, lx_bodyB]
  rfl

/-! ### the parser on them -/
def ifT : ByteArray := ⟨#[105, 102]⟩
def loopT : ByteArray := ⟨#[108, 111, 111, 112]⟩
theorem kind_if : kindN ifT = 7 := by decide
theorem kind_loop : kindN loopT = 8 := by decide
theorem st_if (e p : Int) (bl : List Tok6 → Out (List St6)) (r : List Tok6) : stmtW e bl (⟨1, p, ifT⟩ :: r) = match bl r with
    | .bad a b => .bad a b
    | .ok A r1 => if (nx r1 e).f2 = elseT then (match bl r1.tail with
        | .bad a b => .bad a b
        | .ok B r2 => .ok ⟨7, p, ⟨#[]⟩, A, B⟩ r2) else .ok ⟨7, p, ⟨#[]⟩, A, []⟩ r1 := by
  unfold stmtW
  rw [show nx (⟨1, p, ifT⟩ :: r) e = ⟨1, p, ifT⟩ from rfl, if_neg (fun h => h rfl), kind_if, if_neg (by decide), if_neg (by decide)]
  simp only [List.tail_cons, show ¬ ((7 : Int) = 8) by decide, if_false]
  cases bl r <;> rfl
theorem st_loop (e p : Int) (bl : List Tok6 → Out (List St6)) (r : List Tok6) : stmtW e bl (⟨1, p, loopT⟩ :: r) = match bl r with
    | .bad a b => .bad a b
    | .ok A r1 => .ok ⟨8, p, ⟨#[]⟩, A, []⟩ r1 := by
  unfold stmtW
  rw [show nx (⟨1, p, loopT⟩ :: r) e = ⟨1, p, loopT⟩ from rfl, if_neg (fun h => h rfl), kind_loop, if_neg (by decide), if_neg (by decide)]
  simp only [List.tail_cons, if_true]
  cases bl r <;> rfl
theorem bl_open (e p : Int) (x : ByteArray) (ss : Int → List Tok6 → Out (List St6)) {deep : Int} (h : deep < 20) (r : List Tok6) : blockW e ss deep (⟨2, p, x⟩ :: r) = ss (deep + 1) r := by
  unfold blockW
  rw [show nx (⟨2, p, x⟩ :: r) e = ⟨2, p, x⟩ from rfl, if_neg (fun h => h rfl), if_neg (by omega)]
  rfl
theorem bl_deep (e p : Int) (x : ByteArray) (ss : Int → List Tok6 → Out (List St6)) {deep : Int} (h : 20 ≤ deep) (r : List Tok6) : blockW e ss deep (⟨2, p, x⟩ :: r) = .bad p 8 := by
  unfold blockW
  rw [show nx (⟨2, p, x⟩ :: r) e = ⟨2, p, x⟩ from rfl, if_neg (fun h => h rfl), if_pos h]
theorem ss_close (e p deep : Int) (x : ByteArray) (n : Nat) (r : List Tok6) : stmtsP e (n + 1) deep (⟨3, p, x⟩ :: r) = .ok [] r := by
  simp only [stmtsP]
  rw [show nx (⟨3, p, x⟩ :: r) e = ⟨3, p, x⟩ from rfl, if_pos rfl]
  rfl
theorem ss_more (e p deep : Int) (x : ByteArray) (n : Nat) (r : List Tok6) : stmtsP e (n + 1) deep (⟨1, p, x⟩ :: r) = thenS (stmtsP e n deep) (stmtW e (blockW e (stmtsP e n) deep) (⟨1, p, x⟩ :: r)) := by
  simp only [stmtsP]
  rw [show nx (⟨1, p, x⟩ :: r) e = ⟨1, p, x⟩ from rfl, if_neg (fun h => absurd (show (1 : Int) = 3 from h) (by decide))]
theorem nx_end (m j : Nat) (e : Int) (rest : List Tok6) : (nx ((endK (m + 1) j).map mkTok ++ rest) e).f2 ≠ elseT := by
  simp only [endK, List.map_cons, List.cons_append]
  show (⟨#[]⟩ : ByteArray) ≠ elseT
  decide
/-- blocks that are not too deep -/
theorem deep_ok (e : Int) : ∀ (cs : List Nat) (i j m n : Nat) (deep : Int), cs.length + 1 ≤ n → deep + cs.length ≤ 20 →
    ∃ A, stmtsP e n deep ((bodyK cs i ++ endK (cs.length + 1 + m) j).map mkTok) = .ok A ((endK m (j + 2 * (cs.length + 1))).map mkTok)
  | [], i, j, m, n, deep, hn, hd => by
    obtain ⟨n, rfl⟩ : ∃ k, n = k + 1 := ⟨n - 1, by simp at hn; omega⟩
    refine ⟨[], ?_⟩
    simp only [bodyK, List.nil_append, List.length_nil, Nat.zero_add, Nat.add_comm 1 m, endK, List.map_cons]
    exact ss_close _ _ _ _ _ _
  | c :: r, i, j, m, n, deep, hn, hd => by
    simp only [List.length_cons] at hn hd
    obtain ⟨n, rfl⟩ : ∃ k, n = k + 1 := ⟨n - 1, by omega⟩
    obtain ⟨n', rfl⟩ : ∃ k, n = k + 1 := ⟨n - 1, by omega⟩
    obtain ⟨A, hA⟩ := deep_ok e r (i + (pieceB c).length) j (m + 1) (n' + 1) (deep + 1) (by omega) (by omega)
    have hd' : deep < 20 := by omega
    have hlen : (c :: r).length + 1 + m = r.length + 1 + (m + 1) := by simp only [List.length_cons]; omega
    have hlen2 : j + 2 * ((c :: r).length + 1) = j + 2 * (r.length + 1) + 2 := by simp only [List.length_cons]; omega
    rw [hlen, hlen2]
    have hend : stmtsP e (n' + 1) deep ((endK (m + 1) (j + 2 * (r.length + 1))).map mkTok) = .ok [] ((endK m (j + 2 * (r.length + 1) + 2)).map mkTok) := ss_close _ _ _ _ _ _
    have hne := nx_end m (j + 2 * (r.length + 1)) e []
    rw [List.append_nil] at hne
    match c with
    | 0 =>
      have hl : (bodyK (0 :: r) i ++ endK (r.length + 1 + (m + 1)) j).map mkTok = ⟨1, ((0 + i : Nat) : Int), ifT⟩ :: ⟨2, ((3 + i : Nat) : Int), ⟨#[]⟩⟩ :: ((bodyK r (i + (pieceB 0).length) ++ endK (r.length + 1 + (m + 1)) j).map mkTok) := rfl
      refine ⟨[⟨7, ((0 + i : Nat) : Int), ⟨#[]⟩, A, []⟩], ?_⟩
      rw [hl, ss_more, st_if, bl_open _ _ _ _ hd', hA]
      simp only []
      rw [if_neg hne]
      simp only [thenS]
      rw [hend]
    | 1 =>
      have hl : (bodyK (1 :: r) i ++ endK (r.length + 1 + (m + 1)) j).map mkTok = ⟨1, ((0 + i : Nat) : Int), loopT⟩ :: ⟨2, ((5 + i : Nat) : Int), ⟨#[]⟩⟩ :: ((bodyK r (i + (pieceB 1).length) ++ endK (r.length + 1 + (m + 1)) j).map mkTok) := rfl
      refine ⟨[⟨8, ((0 + i : Nat) : Int), ⟨#[]⟩, A, []⟩], ?_⟩
      rw [hl, ss_more, st_loop, bl_open _ _ _ _ hd', hA]
      simp only [thenS]
      rw [hend]
    | q + 2 =>
      have hl : (bodyK ((q + 2) :: r) i ++ endK (r.length + 1 + (m + 1)) j).map mkTok = ⟨1, ((0 + i : Nat) : Int), ifT⟩ :: ⟨2, ((3 + i : Nat) : Int), ⟨#[]⟩⟩ :: ⟨3, ((5 + i : Nat) : Int), ⟨#[]⟩⟩ :: ⟨1, ((7 + i : Nat) : Int), elseT⟩ :: ⟨2, ((12 + i : Nat) : Int), ⟨#[]⟩⟩ :: ((bodyK r (i + (pieceB (q + 2)).length) ++ endK (r.length + 1 + (m + 1)) j).map mkTok) := rfl
      refine ⟨[⟨7, ((0 + i : Nat) : Int), ⟨#[]⟩, [], A⟩], ?_⟩
      rw [hl, ss_more, st_if, bl_open _ _ _ _ hd', ss_close]
      simp only []
      rw [if_pos (by rfl)]
      simp only [List.tail_cons]
      rw [bl_open _ _ _ _ hd', hA]
      simp only [thenS]
      rw [hend]
/-- where it is too deep -/
def failK : Nat → List Nat → Nat → Nat
  | _, [], _ => 0
  | 0, c :: _, i => i + offB c
  | d + 1, c :: r, i => failK d r (i + (pieceB c).length)
theorem deep_bad (e : Int) : ∀ (cs : List Nat) (i n d : Nat) (rest : List Tok6), cs.length + 1 ≤ n → d < cs.length → d ≤ 20 →
    stmtsP e n (20 - (d : Int)) ((bodyK cs i).map mkTok ++ rest) = .bad (failK d cs i : Nat) 8
  | [], i, n, d, rest, hn, hd, _ => by simp at hd
  | c :: r, i, n, d, rest, hn, hd, hdd => by
    simp only [List.length_cons] at hn hd
    obtain ⟨n, rfl⟩ : ∃ k, n = k + 1 := ⟨n - 1, by omega⟩
    obtain ⟨n', rfl⟩ : ∃ k, n = k + 1 := ⟨n - 1, by omega⟩
    cases d with
    | zero =>
      have h20 : (20 : Int) ≤ 20 - ((0 : Nat) : Int) := by simp
      match c with
      | 0 =>
        have hl : (bodyK (0 :: r) i).map mkTok ++ rest = ⟨1, ((0 + i : Nat) : Int), ifT⟩ :: ⟨2, ((3 + i : Nat) : Int), ⟨#[]⟩⟩ :: ((bodyK r (i + (pieceB 0).length)).map mkTok ++ rest) := rfl
        rw [hl, ss_more, st_if, bl_deep _ _ _ _ h20]
        simp only [thenS, failK, offB, Nat.add_comm]
      | 1 =>
        have hl : (bodyK (1 :: r) i).map mkTok ++ rest = ⟨1, ((0 + i : Nat) : Int), loopT⟩ :: ⟨2, ((5 + i : Nat) : Int), ⟨#[]⟩⟩ :: ((bodyK r (i + (pieceB 1).length)).map mkTok ++ rest) := rfl
        rw [hl, ss_more, st_loop, bl_deep _ _ _ _ h20]
        simp only [thenS, failK, offB, Nat.add_comm]
      | q + 2 =>
        have hl : (bodyK ((q + 2) :: r) i).map mkTok ++ rest = ⟨1, ((0 + i : Nat) : Int), ifT⟩ :: ⟨2, ((3 + i : Nat) : Int), ⟨#[]⟩⟩ :: (⟨3, ((5 + i : Nat) : Int), ⟨#[]⟩⟩ :: ⟨1, ((7 + i : Nat) : Int), elseT⟩ :: ⟨2, ((12 + i : Nat) : Int), ⟨#[]⟩⟩ :: ((bodyK r (i + (pieceB (q + 2)).length)).map mkTok ++ rest)) := rfl
        rw [hl, ss_more, st_if, bl_deep _ _ _ _ h20]
        simp only [thenS, failK, offB, Nat.add_comm]
    | succ d =>
      have hA := deep_bad e r (i + (pieceB c).length) (n' + 1) d rest (by omega) (by omega) (by omega)
      have hdp : (20 : Int) - ((d + 1 : Nat) : Int) + 1 = 20 - (d : Int) := by omega
      have hd' : (20 : Int) - ((d + 1 : Nat) : Int) < 20 := by omega
      match c with
      | 0 =>
        have hl : (bodyK (0 :: r) i).map mkTok ++ rest = ⟨1, ((0 + i : Nat) : Int), ifT⟩ :: ⟨2, ((3 + i : Nat) : Int), ⟨#[]⟩⟩ :: ((bodyK r (i + (pieceB 0).length)).map mkTok ++ rest) := rfl
        rw [hl, ss_more, st_if, bl_open _ _ _ _ hd', hdp, hA]
        rfl
      | 1 =>
        have hl : (bodyK (1 :: r) i).map mkTok ++ rest = ⟨1, ((0 + i : Nat) : Int), loopT⟩ :: ⟨2, ((5 + i : Nat) : Int), ⟨#[]⟩⟩ :: ((bodyK r (i + (pieceB 1).length)).map mkTok ++ rest) := rfl
        rw [hl, ss_more, st_loop, bl_open _ _ _ _ hd', hdp, hA]
        rfl
      | q + 2 =>
        have hl : (bodyK ((q + 2) :: r) i).map mkTok ++ rest = ⟨1, ((0 + i : Nat) : Int), ifT⟩ :: ⟨2, ((3 + i : Nat) : Int), ⟨#[]⟩⟩ :: ⟨3, ((5 + i : Nat) : Int), ⟨#[]⟩⟩ :: ⟨1, ((7 + i : Nat) : Int), elseT⟩ :: ⟨2, ((12 + i : Nat) : Int), ⟨#[]⟩⟩ :: ((bodyK r (i + (pieceB (q + 2)).length)).map mkTok ++ rest) := rfl
        rw [hl, ss_more, st_if, bl_open _ _ _ _ hd', ss_close]
        simp only []
        rw [if_pos (by rfl)]
        simp only [List.tail_cons]
        rw [bl_open _ _ _ _ hd', hdp, hA]
        rfl
end Go.Proofs.YtkmafndljelopaaDoor.Q
