/- deadboltref15.May and deadboltref15.Parse in plain words: they are the code's. -/
import Derived.Test.YtpnnojigdhkjaaaDoorName4
import Derived.Test.YtpnnojigdhkjaaaDoorPro
import Derived.Test.YtpnnojigdhkjaaaDoorQ3
import Derived.Test.YtpnnojigdhkjaaaDoorQ4
namespace Go.Proofs.YtpnnojigdhkjaaaDoor.Q
open Go.RowKit Go.Proofs.YtpnnojigdhkjaaaDoorW.PrintWords Go.Proofs.YtpnnojigdhkjaaaDoorW.PrintLast Go.Proofs.YtpnnojigdhkjaaaDoorW.PrintMore Go.Proofs.YtpnnojigdhkjaaaDoor.Lx
set_option linter.unusedVariables false
set_option linter.unusedSimpArgs false

theorem isEmpty_iff (t : ByteArray) : t.toList = ([] : List UInt8) ↔ t.data.toList.isEmpty = true := by
  rw [ByteArray.toList_eq]
  simp
theorem beq_empty (t : ByteArray) : (t.toList == ([] : List UInt8)) = t.data.toList.isEmpty := by
  rw [Bool.eq_iff_iff, beq_iff_eq]
  exact isEmpty_iff t
theorem size_empty {t : ByteArray} (h : t.data.toList.isEmpty = true) : t.size = 0 := by
  have := List.isEmpty_iff.mp h
  have : t.data.toList.length = 0 := by rw [this]; rfl
  simpa using this
theorem May_ev (k : Int) (n t : ByteArray) : EvS (fun j => deadboltref15_May.f j k n t) (mayB k n t) := by
  have hm : mayB k n t = (if k = 1 then nameB n.data.toList && decide (t.size ≤ 2000)
    else if k = 2 ∨ k = 6 then nameB n.data.toList && t.data.toList.isEmpty
    else if k = 3 ∨ k = 4 ∨ k = 5 ∨ k = 7 then n.data.toList.isEmpty && t.data.toList.isEmpty
    else false) := rfl
  have named : k ≠ 1 → k = 2 ∨ k = 6 → ∀ b, b = nameB n.data.toList → EvS (fun _ => if b = true then (if (t.size : Int) ≤ 2000 then (some (t.toList == ([] : List UInt8))) else (some false)) else (some false)) (mayB k n t) := by
    intro h1 h2 b hb
    subst hb
    rw [show mayB k n t = (nameB n.data.toList && t.data.toList.isEmpty) by rw [hm, if_neg h1, if_pos h2]]
    by_cases hn : nameB n.data.toList = true
    · refine EvS.if_pos hn ?_
      rw [hn, beq_empty, Bool.true_and]
      by_cases ht : (t.size : Int) ≤ 2000
      · exact EvS.if_pos ht (.some_ _)
      · refine EvS.if_neg ht ?_
        cases he : t.data.toList.isEmpty with
        | false => exact .some_ _
        | true => exact absurd (size_empty he) (by omega)
    · refine EvS.if_neg hn ?_
      rw [eq_false_of_ne_true hn]
      exact .some_ _
  unfold deadboltref15_May.f
  by_cases h1 : k = 1
  · refine EvS.if_pos h1 (EvS.if_neg (by omega) (EvS.if_neg (by omega) (EvS.bind (Name4_ev n) ?_)))
    rw [show mayB k n t = (nameB n.data.toList && decide (t.size ≤ 2000)) by rw [hm, if_pos h1]]
    by_cases hn : nameB n.data.toList = true
    · refine EvS.if_pos hn ?_
      rw [hn, Bool.true_and]
      by_cases ht : (t.size : Int) ≤ 2000
      · rw [decide_eq_true (by omega : t.size ≤ 2000)]
        exact EvS.if_pos ht (.some_ _)
      · rw [decide_eq_false (by omega : ¬ t.size ≤ 2000)]
        exact EvS.if_neg ht (.some_ _)
    · refine EvS.if_neg hn ?_
      rw [eq_false_of_ne_true hn]
      exact .some_ _
  refine EvS.if_neg h1 ?_
  by_cases h2 : k = 2
  · exact EvS.if_pos h2 (EvS.if_neg (by omega) (EvS.if_neg (by omega) (EvS.bind (Name4_ev n) (named h1 (.inl h2) _ rfl))))
  refine EvS.if_neg h2 ?_
  by_cases hlo : k < 1
  · refine EvS.if_pos hlo ?_
    rw [show mayB k n t = false by rw [hm, if_neg h1, if_neg (by omega), if_neg (by omega)]]
    exact .some_ _
  refine EvS.if_neg hlo ?_
  by_cases hhi : k > 7
  · refine EvS.if_pos hhi ?_
    rw [show mayB k n t = false by rw [hm, if_neg h1, if_neg (by omega), if_neg (by omega)]]
    exact .some_ _
  refine EvS.if_neg hhi ?_
  by_cases h6 : k = 6
  · exact EvS.if_pos h6 (EvS.bind (Name4_ev n) (named h1 (.inr h6) _ rfl))
  refine EvS.if_neg h6 ?_
  rw [show mayB k n t = (n.data.toList.isEmpty && t.data.toList.isEmpty) by rw [hm, if_neg h1, if_neg (by omega), if_pos (by omega)]]
  by_cases hn : n.data.toList.isEmpty = true
  · refine EvS.if_pos ((isEmpty_iff n).mpr hn) ?_
    rw [hn, Bool.true_and, beq_empty]
    by_cases ht : (t.size : Int) ≤ 2000
    · exact EvS.if_pos ht (.some_ _)
    · refine EvS.if_neg ht ?_
      cases he : t.data.toList.isEmpty with
      | false => exact .some_ _
      | true => exact absurd (size_empty he) (by omega)
  · refine EvS.if_neg (fun h => hn ((isEmpty_iff n).mp h)) ?_
    rw [eq_false_of_ne_true hn]
    exact .some_ _

theorem or_shl8 (a b : Nat) (ha : a < 256) (hb : b < 256) : Go.bits .or .i64 (a : Int) ((b : Int) * 256) = ((a + b * 256 : Nat) : Int) := by
  have h := (bits_nat .i64 16 (by decide) (fun n h0 h1 => by rw [IntKind.wrap_i64]; omega) a (b * 256) (by omega) (by omega)).2
  have e : a ||| b * 256 = a + b * 256 := by
    have h2 := Nat.two_pow_add_eq_or_of_lt (i := 8) ha b
    rw [Nat.or_comm, Nat.mul_comm b 256, ← h2]
    omega
  rw [e] at h
  simpa using h

theorem parse_bad {x : List Int} (h : ∀ k n t, readL x = some (k, n, t) → x ≠ sealI (msgI k n t)) : parseR x = badR := by
  unfold parseR
  cases he : readL x with
  | none => rfl
  | some p =>
    obtain ⟨k, n, t⟩ := p
    exact if_neg fun hc => h k n t he hc.2.symm
theorem readL_short {x : List Int} (h : x.length < 8) : parseR x = badR := by
  refine parse_bad fun k n t _ hx => ?_
  have := congrArg List.length hx
  rw [sealI_len, msgI_len] at this
  omega
theorem readL_name {k0 n0 : Int} {r : List Int} {k : Int} {n t : ByteArray} (h : readL (k0 :: n0 :: r) = some (k, n, t)) : n.size = n0.toNat := by
  simp only [readL] at h
  split at h
  · split at h
    · split at h
      · simp only [Option.some.injEq, Prod.mk.injEq] at h
        obtain ⟨_, rfl, _⟩ := h
        rw [strOfNums_size, List.length_take]
        omega
      · cases h
    · cases h
  · cases h
theorem rd_nat (l : List Int) (i : Nat) (h : i < l.length) : rd l (i : Int) = l[i] := by
  simp [rd, List.getD_eq_getElem?_getD, List.getElem?_eq_getElem h]
theorem w64a (a b : Nat) (h : a + b < 4611686018427387904) : wrap64 ((a : Int) + (b : Int)) = ((a + b : Nat) : Int) := by rw [w64 (by omega)]; omega
theorem w64b (z : Int) (h : 0 ≤ z ∧ z < 256) : wrap64 z = z := w64 (by omega)
theorem w64c (z : Int) (h : 0 ≤ z ∧ z < 256) : wrap64 (z * 256) = z * 256 := w64 (by omega)
set_option maxHeartbeats 1000000 in
theorem ref_Parse_ev (x : List Int) (hx : Bts x) (hl : x.length ≤ 1099511627776) : EvS (fun k => deadboltref15_Parse.f k x) (parseR x) := by
  have no : parseR x = badR → EvS (fun k => deadboltref15_Parse.j0 k x true) (parseR x) := fun h => by
    rw [h]
    refine EvS.succ ?_
    simp only [deadboltref15_Parse.j0]
    exact EvS.if_pos trivial (.some_ _)
  unfold deadboltref15_Parse.f
  by_cases h8 : (x.length : Int) < 8
  · exact EvS.if_pos h8 (no (readL_short (by omega)))
  refine EvS.if_neg h8 (EvS.if_pos (by omega) ?_)
  obtain ⟨k0, n0, r, rfl⟩ : ∃ k0 n0 r, x = k0 :: n0 :: r := by
    rcases x with _ | ⟨a, _ | ⟨b, r⟩⟩
    · simp at h8
    · simp at h8
    · exact ⟨a, b, r, rfl⟩
  have hk0 := hx k0 (by simp)
  have hn0 := hx n0 (by simp)
  obtain ⟨N, rfl⟩ := Int.eq_ofNat_of_zero_le hn0.1
  have hN : N < 256 := by omega
  have hL : (k0 :: (N : Int) :: r).length = r.length + 2 := rfl
  rw [show wrap64 (rd (k0 :: (N : Int) :: r) 1) = (N : Int) from w64b (N : Int) hn0, show wrap64 (8 + (N : Int)) = ((8 + N : Nat) : Int) from w64a 8 N (by omega)]
  by_cases h8N : (((k0 :: (N : Int) :: r).length : Nat) : Int) < ((8 + N : Nat) : Int)
  · rw [decide_eq_true h8N]
    refine no (parse_bad fun k n t h hc => ?_)
    have h1 := readL_name h
    have h2 := congrArg List.length hc
    rw [sealI_len, msgI_len] at h2
    simp only [Int.toNat_natCast] at h1
    omega
  rw [decide_eq_false h8N]
  have hr : N + 6 ≤ r.length := by omega
  have ga := List.getElem_mem (l := r) (n := N) (by omega)
  have gb := List.getElem_mem (l := r) (n := N + 1) (by omega)
  have hA := hx _ (List.mem_cons_of_mem _ (List.mem_cons_of_mem _ ga))
  have hB := hx _ (List.mem_cons_of_mem _ (List.mem_cons_of_mem _ gb))
  have hd : r.drop N = r[N] :: r[N + 1] :: r.drop (N + 2) := by
    rw [List.drop_eq_getElem_cons (by omega : N < r.length), List.drop_eq_getElem_cons (by omega : N + 1 < r.length)]
  have ra : rd (k0 :: (N : Int) :: r) ((2 + N : Nat) : Int) = r[N] := by
    rw [rd_nat _ _ (by rw [hL]; omega)]
    simp only [show 2 + N = N + 1 + 1 by omega, List.getElem_cons_succ]
  have rb : rd (k0 :: (N : Int) :: r) ((3 + N : Nat) : Int) = r[N + 1] := by
    rw [rd_nat _ _ (by rw [hL]; omega)]
    simp only [show 3 + N = N + 1 + 1 + 1 by omega, List.getElem_cons_succ]
  generalize r[N] = a at *
  generalize r[N + 1] = b at *
  obtain ⟨A, rfl⟩ := Int.eq_ofNat_of_zero_le hA.1
  obtain ⟨B, rfl⟩ := Int.eq_ofNat_of_zero_le hB.1
  obtain ⟨K, hK⟩ : ∃ K, K = A + B * 256 := ⟨_, rfl⟩
  have hA2 : A < 256 := by omega
  have hB2 : B < 256 := by omega
  have hK' : K < 65536 := by omega
  have b2 : 2 + N < 4611686018427387904 := by omega
  have b3 : 3 + N < 4611686018427387904 := by omega
  have b4 : 4 + N < 4611686018427387904 := by omega
  have b8 : 8 + N < 4611686018427387904 := by omega
  have b8K : 8 + N + K < 4611686018427387904 := by omega
  have b4K : 4 + N + K < 4611686018427387904 := by omega
  have e0 : wrap64 (rd (k0 :: (N : Int) :: r) 0) = k0 := w64b k0 hk0
  have e1 : wrap64 (rd (k0 :: (N : Int) :: r) 1) = (N : Int) := w64b (N : Int) hn0
  have e2 : wrap64 (2 + (N : Int)) = ((2 + N : Nat) : Int) := w64a 2 N b2
  have e3 : wrap64 (3 + (N : Int)) = ((3 + N : Nat) : Int) := w64a 3 N b3
  have e4 : wrap64 (4 + (N : Int)) = ((4 + N : Nat) : Int) := w64a 4 N b4
  have e8 : wrap64 (8 + (N : Int)) = ((8 + N : Nat) : Int) := w64a 8 N b8
  have ea : wrap64 (A : Int) = (A : Int) := w64b _ hA
  have eb : wrap64 (B : Int) = (B : Int) := w64b _ hB
  have eB : wrap64 ((B : Int) * 256) = (B : Int) * 256 := w64c _ hB
  have eK := or_shl8 A B hA2 hB2
  rw [← hK] at eK
  have e8K : wrap64 (((8 + N : Nat) : Int) + (K : Int)) = ((8 + N + K : Nat) : Int) := w64a (8 + N) K b8K
  have e4K : wrap64 (((4 + N : Nat) : Int) + (K : Int)) = ((4 + N + K : Nat) : Int) := w64a (4 + N) K b4K
  refine EvS.succ ?_
  simp only [deadboltref15_Parse.j0, e1, e2, e3, e4, e8, ra, rb, ea, eb, eB, eK, e8K, e4K, e0, hL, Int.toNat_natCast]
  clear e1 e2 e3 e4 e8 ra rb ea eb eB eK e8K e4K e0
  refine EvS.if_neg (by simp) (EvS.if_pos (by omega) (EvS.if_pos (by omega) (EvS.if_pos (by omega) (EvS.if_pos (by omega) (EvS.if_pos (by omega) ?_)))))
  by_cases hLK : ((r.length + 2 : Nat) : Int) = ((8 + N + K : Nat) : Int)
  · have hd3 : (r.drop (N + 2)).length = K + 4 := by rw [List.length_drop]; omega
    have tn : ((k0 :: (N : Int) :: r).take (2 + N)).drop 2 = r.take N := by
      rw [show 2 + N = N + 2 by omega]; rfl
    have tt : ((k0 :: (N : Int) :: r).take (4 + N + K)).drop (4 + N) = (r.drop (N + 2)).take K := by
      rw [show 4 + N + K = (N + 2 + K) + 2 by omega, show 4 + N = (N + 2) + 2 by omega]
      show (r.take (N + 2 + K)).drop (N + 2) = _
      rw [List.drop_take]
      congr 1
      omega
    have hread : readL (k0 :: (N : Int) :: r) = some (k0, strOfNums (r.take N), strOfNums ((r.drop (N + 2)).take K)) := by
      simp only [readL, Int.toNat_natCast]
      rw [if_pos (by omega), hd]
      simp only []
      rw [show ((A : Int) + (B : Int) * 256).toNat = K by omega, if_pos (by omega)]
    have hs := readL_size hread
    have hp : parseR (k0 :: (N : Int) :: r) = (if mayB k0 (strOfNums (r.take N)) (strOfNums ((r.drop (N + 2)).take K)) = true ∧ sealI (msgI k0 (strOfNums (r.take N)) (strOfNums ((r.drop (N + 2)).take K))) = k0 :: (N : Int) :: r then (k0, strOfNums (r.take N), strOfNums ((r.drop (N + 2)).take K), 0) else badR) := by
      unfold parseR
      rw [hread]
    rw [hp, tn, tt]
    generalize strOfNums (r.take N) = n at *
    generalize strOfNums ((r.drop (N + 2)).take K) = t at *
    refine EvS.if_pos hLK (EvS.if_pos (by omega) (EvS.if_pos (by omega) (EvS.if_pos (by omega) (EvS.if_pos (by omega) (EvS.if_pos (by omega) (EvS.if_pos (by omega) (EvS.bind (May_ev _ _ _) ?_)))))))
    by_cases h1 : mayB k0 n t = true
    · refine EvS.if_pos h1 (EvS.bind (ref_Bytes_ev k0 n t (by omega) (by omega)) ?_)
      by_cases h2 : sealI (msgI k0 n t) = k0 :: (N : Int) :: r
      · rw [show (if mayB k0 n t = true ∧ sealI (msgI k0 n t) = k0 :: (N : Int) :: r then (k0, n, t, (0 : Int)) else badR) = (k0, n, t, 0) from if_pos ⟨h1, h2⟩]
        exact EvS.if_pos ((strOf_inj (sealI_Bts (msgI_Bts _ _ _)) hx).mpr h2) (.some_ _)
      · rw [show (if mayB k0 n t = true ∧ sealI (msgI k0 n t) = k0 :: (N : Int) :: r then (k0, n, t, (0 : Int)) else badR) = badR from if_neg fun h => h2 h.2]
        exact EvS.if_neg (fun h => h2 ((strOf_inj (sealI_Bts (msgI_Bts _ _ _)) hx).mp h)) (.some_ _)
    · rw [show (if mayB k0 n t = true ∧ sealI (msgI k0 n t) = k0 :: (N : Int) :: r then (k0, n, t, (0 : Int)) else badR) = badR from if_neg fun h => h1 h.1]
      exact EvS.if_neg h1 (.some_ _)
  · refine EvS.if_neg hLK ?_
    rw [parse_bad]
    · exact .some_ _
    intro k n t h hc
    have h1 := congrArg List.length hc
    rw [sealI_len, msgI_len] at h1
    simp only [readL, Int.toNat_natCast, hd] at h
    split at h
    · split at h
      · simp only [Option.some.injEq, Prod.mk.injEq] at h
        obtain ⟨_, rfl, rfl⟩ := h
        rw [strOfNums_size, strOfNums_size] at h1
        simp only [List.length_take, List.length_cons] at h1
        omega
      · cases h
    · cases h
end Go.Proofs.YtpnnojigdhkjaaaDoor.Q
