/- ProtoTurn: a request with one place turned is refused, with two places turned too, and with the same place turned twice it is the request again. In plain words. -/
import Derived.Test.YtpnnojigdhkjaaaDoorProLaw
import Derived.Test.YtpnnojigdhkjaaaDoorQ7
namespace Go.Proofs.YtpnnojigdhkjaaaDoor.Pure
open Go.RowKit Go.Proofs.YtpnnojigdhkjaaaDoor.Q Go.Proofs.YtpnnojigdhkjaaaDoorW.PrintWords Go.Proofs.YtpnnojigdhkjaaaDoorW.PrintLast Go.Proofs.YtpnnojigdhkjaaaDoorW.PrintMore Go.Proofs.YtpnnojigdhkjaaaDoor.Lx
set_option linter.unusedVariables false
set_option linter.unusedSimpArgs false

def turnN (l : List Nat) (p : Nat) : List Nat := l.set (p / 8) (l.getD (p / 8) 0 ^^^ 2 ^ (p % 8))
theorem turnN_len (l : List Nat) (p : Nat) : (turnN l p).length = l.length := List.length_set
theorem getD_lt {l : List Nat} (hl : ∀ b ∈ l, b < 256) (i : Nat) : l.getD i 0 < 256 := by
  by_cases h : i < l.length
  · rw [List.getD_eq_getElem?_getD, List.getElem?_eq_getElem h]
    exact hl _ (List.getElem_mem h)
  · rw [List.getD_eq_getElem?_getD, List.getElem?_eq_none (by omega)]
    decide
theorem turnN_lt {l : List Nat} (hl : ∀ b ∈ l, b < 256) (p : Nat) : ∀ b ∈ turnN l p, b < 256 :=
  set_lt hl _ _ (turn_lt (getD_lt hl _) (by omega))
theorem turnN_val {l : List Nat} (hl : ∀ b ∈ l, b < 256) (p : Nat) (hp : p < 8 * l.length) : Lx.valOf (turnN l p) = Lx.valOf l ^^^ 2 ^ p := by
  unfold turnN
  rw [valOf_turn l hl (p / 8) (p % 8) (by omega) (by omega), show 8 * (p / 8) + p % 8 = p by omega]
theorem turnN_twice (l : List Nat) (p : Nat) (hp : p < 8 * l.length) : turnN (turnN l p) p = l := by
  have hi : p / 8 < l.length := by omega
  unfold turnN
  rw [List.set_set, List.getD_eq_getElem?_getD, List.getElem?_set_self hi, Option.getD_some, Nat.xor_assoc, Nat.xor_self, Nat.xor_zero, List.getD_eq_getElem?_getD, List.getElem?_eq_getElem hi, Option.getD_some]
  exact List.set_getElem_self hi
theorem turn_int (m : List Nat) (hm : ∀ b ∈ m, b < 256) (p : Nat) (hp : p < 8 * m.length) (hl : m.length ≤ 4294967296) :
    0 ≤ wrap64 (Int.tdiv (p : Int) 8) ∧ wrap64 (Int.tdiv (p : Int) 8) < ((ints m).length : Int) ∧ 0 ≤ IntKind.u64.wrap (Int.tmod (p : Int) 8) ∧
    (ints m).set (wrap64 (Int.tdiv (p : Int) 8)).toNat (bits .xor .u8 (rd (ints m) (wrap64 (Int.tdiv (p : Int) 8))) (shl .u8 1 (IntKind.u64.wrap (Int.tmod (p : Int) 8)))) = ints (turnN m p) := by
  have e1 : wrap64 (Int.tdiv (p : Int) 8) = ((p / 8 : Nat) : Int) := by
    rw [Int.tdiv_eq_ediv_of_nonneg (by omega), w64 (by omega)]
    rfl
  have e2 : IntKind.u64.wrap (Int.tmod (p : Int) 8) = ((p % 8 : Nat) : Int) := by
    rw [Int.tmod_eq_emod_of_nonneg (by omega), IntKind.wrap_u64]
    omega
  have hlen : (ints m).length = m.length := by simp [ints]
  have hi : p / 8 < m.length := by omega
  have hr : rd (ints m) ((p / 8 : Nat) : Int) = ((m.getD (p / 8) 0 : Nat) : Int) := by
    simp only [rd, Int.toNat_natCast, ints, List.getD_eq_getElem?_getD, List.getElem?_map, List.getElem?_eq_getElem hi, Option.map_some, Option.getD_some]
  have h8 : 2 ^ (p % 8) < 2 ^ 8 := Nat.pow_lt_pow_right (by decide) (by omega)
  have hs : shl .u8 1 ((p % 8 : Nat) : Int) = ((2 ^ (p % 8) : Nat) : Int) := by
    unfold shl
    rw [show min ((p % 8 : Nat) : Int).toNat IntKind.u8.bits = p % 8 by show min (p % 8) 8 = p % 8; omega, Int.one_mul]
    rw [show (2 : Int) ^ (p % 8) = ((2 ^ (p % 8) : Nat) : Int) by simp, wraps_u8 _ (Int.natCast_nonneg _) (by exact_mod_cast h8)]
  rw [e1, e2]
  refine ⟨by omega, by omega, by omega, ?_⟩
  rw [hr, hs, bits_xor_k .u8 8 (by decide) wraps_u8 _ _ (getD_lt hm _) h8]
  unfold turnN ints
  rw [List.map_set]
  rfl

theorem seal_register {x : List Int} (h : (parseR x).2.2.2 = 0) : feeds ones (nats x) = stps 32 ones := by
  rcases parse_code x with h' | ⟨_, b, hb, rfl⟩
  · rw [h] at h'; cases h'
  · unfold sealI
    rw [nats_app, nats_ints]
    exact sealed_register _ hb.nats
theorem code_of {x : List Int} (h : (parseR x).2.2.2 ≠ 0) : (parseR x).2.2.2 = 12 := by
  rcases parse_code x with h' | ⟨h', _⟩
  · exact h'
  · exact absurd h' h
theorem one_refused (m : List Nat) (hm : ∀ b ∈ m, b < 256) (h0 : (parseR (ints m)).2.2.2 = 0) (p : Nat) (hp : p < 8 * m.length) : (parseR (ints (turnN m p))).2.2.2 = 12 := by
  refine code_of fun h1 => ?_
  have r0 := seal_register h0
  have r1 := seal_register h1
  rw [nats_ints] at r0 r1
  have := register_diff m (turnN m p) hm (turnN_lt hm p) (turnN_len m p).symm (r0.trans r1.symm)
  rw [turnN_val hm p hp, ← Nat.xor_assoc, Nat.xor_self, Nat.zero_xor] at this
  exact one_turn _ p (by omega) this
theorem two_refused (m : List Nat) (hm : ∀ b ∈ m, b < 256) (hl : m.length ≤ 520) (h0 : (parseR (ints m)).2.2.2 = 0) (p q : Nat) (hp : p < 8 * m.length) (hq : q < 8 * m.length) (hne : p ≠ q) : (parseR (ints (turnN (turnN m p) q))).2.2.2 = 12 := by
  refine code_of fun h1 => ?_
  have r0 := seal_register h0
  have r1 := seal_register h1
  rw [nats_ints] at r0 r1
  have := register_diff m (turnN (turnN m p) q) hm (turnN_lt (turnN_lt hm p) q) (by rw [turnN_len, turnN_len]) (r0.trans r1.symm)
  rw [turnN_val (turnN_lt hm p) q (by rw [turnN_len]; exact hq), turnN_val hm p hp, ← Nat.xor_assoc, ← Nat.xor_assoc, Nat.xor_self, Nat.zero_xor] at this
  by_cases h : p < q
  · exact two_turns _ p q h (by omega) (by omega) this
  · rw [Nat.xor_comm] at this
    exact two_turns _ q p (by omega) (by omega) (by omega) this

theorem ProtoTurn : deadboltlaw15_ProtoTurn.Pure := by
  intro a0 a1 a2 a3 a4 _ _ _ _ _
  refine EvS.exists_ ?_
  unfold deadboltlaw15_ProtoTurn.f
  refine EvS.bind known_ev (EvS.if_pos rfl ?_)
  by_cases hs : (a2.size : Int) > 500
  · exact EvS.if_pos hs (.some_ _)
  · obtain ⟨k, n, t, hm, hg, hts⟩ := Make_ev a0 a1 a2 (by omega)
    obtain ⟨m, hM⟩ : ∃ m, m = nats (sealI (msgI k n t)) := ⟨_, rfl⟩
    have hmb : ∀ b ∈ m, b < 256 := hM ▸ hg.bts.nats
    have hMi : sealI (msgI k n t) = ints m := by
      rw [hM]
      unfold nats ints
      rw [List.map_map]
      conv => lhs; rw [← List.map_id (sealI (msgI k n t))]
      apply List.map_congr_left
      intro x hx
      have := hg.bts x hx
      show x = ((x.toNat : Nat) : Int)
      omega
    have hml : m.length = n.size + t.size + 8 := by
      rw [hM, nats_len, sealI_len, msgI_len]
    have hnl := hg.name
    have h0 : (parseR (ints m)).2.2.2 = 0 := by rw [← hMi, hg.back]
    have hil : (ints m).length = m.length := by simp [ints]
    have hw : wrap64 (8 * ((ints m).length : Int)) = 8 * (m.length : Int) := by rw [hil, w64 (by omega)]
    have hpos : 0 < 8 * (m.length : Int) := by omega
    obtain ⟨p, hp⟩ := Int.eq_ofNat_of_zero_le (Int.emod_nonneg a3 (show 8 * (m.length : Int) ≠ 0 by omega))
    obtain ⟨q, hq⟩ := Int.eq_ofNat_of_zero_le (Int.emod_nonneg a4 (show 8 * (m.length : Int) ≠ 0 by omega))
    have hp8 := Int.emod_lt_of_pos a3 hpos
    have hq8 := Int.emod_lt_of_pos a4 hpos
    rw [hp] at hp8
    rw [hq] at hq8
    obtain ⟨t1, t2, t3, t4⟩ := turn_int m hmb p (by omega) (by omega)
    obtain ⟨u1, u2, u3, u4⟩ := turn_int (turnN m p) (turnN_lt hmb p) q (by rw [turnN_len]; omega) (by rw [turnN_len]; omega)
    have hil2 : (ints (turnN m p)).length = (ints m).length := by simp [ints, turnN_len]
    rw [hil2] at u2
    have hr := hg.ref
    rw [hMi] at hr
    have w3 := within15_f a3 (8 * (m.length : Int)) hpos (by omega)
    have w4 := within15_f a4 (8 * (m.length : Int)) hpos (by omega)
    rw [hp] at w3
    rw [hq] at w4
    have b1 : Bts (ints (turnN m p)) := ints_Bts (turnN_lt hmb p)
    have b2 : Bts (ints (turnN (turnN m p) q)) := ints_Bts (turnN_lt (turnN_lt hmb p) q)
    have P1 := Parse_ev _ b1 (by rw [hil2, hil]; omega)
    have P2 := Parse_ev _ b2 (by simp only [ints, List.length_map, turnN_len]; omega)
    refine EvS.if_neg hs (EvS.bind hm (EvS.bind hr ?_))
    rw [hw]
    refine EvS.bind1 w3 (EvS.bind1 w4 (EvS.if_pos t1 (EvS.if_pos t2 (EvS.if_pos t3 (EvS.bind1 (a := ints (turnN m p)) (by rw [t4]) (EvS.bind1 rfl (EvS.if_pos ?_ (EvS.bind (a := parseR (ints (turnN m p))) P1 (EvS.if_pos u1 (EvS.if_pos u2 (EvS.if_pos u3 (EvS.bind (a := parseR (ints (turnN (turnN m p) q))) ?_ (EvS.if_pos ?_ ?_)))))))))))))
    · show 0 + _ < _
      rw [hil2, hil]
      omega
    · rw [u4]
      exact P2
    · exact one_refused m hmb h0 p (by omega)
    · by_cases he : p = q
      · subst he
        rw [turnN_twice m p (by omega), h0]
        simp only [beq_self_eq_true]
        exact .some_ _
      · rw [two_refused m hmb (by omega) h0 p q (by omega) (by omega) he]
        have e : ((p : Int) == (q : Int)) = false := beq_eq_false_iff_ne.mpr (by omega)
        rw [e]
        exact .some_ _
end Go.Proofs.YtpnnojigdhkjaaaDoor.Pure
