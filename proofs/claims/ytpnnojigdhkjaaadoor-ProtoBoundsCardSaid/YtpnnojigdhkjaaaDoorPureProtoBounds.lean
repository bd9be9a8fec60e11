/- ProtoBounds, in plain words: what stands at its bounds is read as it was, or refused. -/
import Derived.Test.YtpnnojigdhkjaaaDoorProBounds
import Derived.Test.YtpnnojigdhkjaaaDoorMay15
namespace Go.Proofs.YtpnnojigdhkjaaaDoor.Q
open Go.RowKit Go.Proofs.YtpnnojigdhkjaaaDoorW.PrintWords Go.Proofs.YtpnnojigdhkjaaaDoorW.PrintLast Go.Proofs.YtpnnojigdhkjaaaDoorW.PrintMore Go.Proofs.YtpnnojigdhkjaaaDoor.Lx
set_option linter.unusedVariables false
set_option linter.unusedSimpArgs false

theorem parse_not (k : Int) (n t : ByteArray) (hk : 0 ≤ k ∧ k < 256) (hn : n.size < 256) (ht : t.size < 65536) (hm : mayB k n t = false) : parseR (sealI (msgI k n t)) = badR := by
  unfold parseR
  have : readL (sealI (msgI k n t)) = some (k, n, t) := readL_seal k n t hk hn ht _
  rw [this]
  exact if_neg (by simp [hm])
theorem bNames_len : ∀ j, j < 5 → (bNames.getD j []).length ≤ 13 := by decide
theorem bKinds_in : ∀ j, j < 3 → 0 ≤ bKinds.getD j 0 ∧ bKinds.getD j 0 < 256 := by decide
theorem mod_nat (a : Int) (n : Nat) (hn : 0 < n) : ∃ j : Nat, a % n = j ∧ j < n := by
  obtain ⟨j, hj⟩ := Int.eq_ofNat_of_zero_le (Int.emod_nonneg a (show (n : Int) ≠ 0 by omega))
  have := Int.emod_lt_of_pos a (show (0 : Int) < n by omega)
  exact ⟨j, hj, by omega⟩
theorem arr_size (l : List UInt8) : (⟨l.toArray⟩ : ByteArray).size = l.length := by simp [ByteArray.size]

theorem deadboltlaw15_ProtoBounds.walk (P : True) (a0 a1 a2 : Int) (w : World) (w0 : (Lit.int .i64 a0).wf = true) (w1 : (Lit.int .i64 a1).wf = true) (w2 : (Lit.int .i64 a2).wf = true) (hG : GL w) :
    Calls Tryd.prog 5 #[.int .i64 a0, .int .i64 a1, .int .i64 a2] w fun e w' => e = .returned (.bool true) ∧ Below w.heap.size w w' := by
  obtain ⟨kn, hkn⟩ := known_ev.exists_
  obtain ⟨k, n, t, hmk, hok, ht1⟩ := Make_ev a0 a2 ⟨#[120]⟩ (by decide)
  have ht2 : t.size ≤ 1 := ht1
  obtain ⟨km, hkm⟩ := hmk.exists_
  obtain ⟨kb, hkb⟩ := hok.ref.exists_
  obtain ⟨j, hj, hj6⟩ := mod_nat a1 6 (by decide)
  obtain ⟨c3, h3, h3'⟩ := mod_nat a2 3 (by decide)
  obtain ⟨c5, h5, h5'⟩ := mod_nat a2 5 (by decide)
  obtain ⟨c6, h6, h6'⟩ := mod_nat a2 6 (by decide)
  have hwj := within15_f a1 6 (by decide) (by decide)
  have hw3 := within15_f a2 3 (by decide) (by decide)
  have hw5 := within15_f a2 5 (by decide) (by decide)
  have hw6 := within15_f a2 6 (by decide) (by decide)
  rw [show a1 % 6 = (j : Int) from hj] at hwj
  rw [show a2 % 3 = (c3 : Int) from h3] at hw3
  rw [show a2 % 5 = (c5 : Int) from h5] at hw5
  rw [show a2 % 6 = (c6 : Int) from h6] at hw6
  obtain ⟨k', hk'⟩ : ∃ k' : Int, k' = if (j : Int) = 0 then bKinds.getD c3 0 else k := ⟨_, rfl⟩
  obtain ⟨n', hn'⟩ : ∃ n' : ByteArray, n' = if (j : Int) = 1 then ⟨(bNames.getD c5 []).toArray⟩ else if (j : Int) = 2 then ⟨#[113]⟩ else n := ⟨_, rfl⟩
  obtain ⟨t', ht'⟩ : ∃ t' : ByteArray, t' = if (j : Int) = 3 then strOfNums (List.replicate (1998 + c6) 0) else if (j : Int) = 4 then ⟨#[121]⟩ else t := ⟨_, rfl⟩
  have sk : 0 ≤ k' ∧ k' < 256 := by
    rw [hk']
    split
    · exact bKinds_in c3 h3'
    · have := hok.kind
      omega
  have sn : n'.size < 256 := by
    rw [hn']
    split
    · rw [arr_size]
      have := bNames_len c5 h5'
      omega
    · split
      · decide
      · have := hok.name
        omega
  have st : t'.size < 65536 := by
    rw [ht']
    split
    · rw [strOfNums_size, List.length_replicate]
      omega
    · split
      · decide
      · omega
  obtain ⟨kb', hkb'⟩ := (ref_Bytes_ev k' n' t' (by omega) (by omega)).exists_
  obtain ⟨kp, hkp⟩ := (Parse_ev _ (sealI_Bts (msgI_Bts k' n' t')) (by rw [sealI_len, msgI_len]; omega)).exists_
  obtain ⟨ky, hky⟩ := (May_ev k' n' t').exists_
  have h8 : 8 ≤ (sealI (msgI k n t)).length := by rw [sealI_len, msgI_len]; omega
  have hjj : (j : Int) = 0 ∨ (j : Int) = 1 ∨ (j : Int) = 2 ∨ (j : Int) = 3 ∨ (j : Int) = 4 ∨ (j : Int) = 5 := by omega
  cases hm : mayB k' n' t' with
  | true =>
    rw [parse_back k' n' t' sk sn st hm] at hkp
    exact bounds_row a0 a1 a2 kn hkn km k n t hkm kb _ hkb h8 j hjj hwj c3 c5 c6 h3' h5' h6' hw3 hw5 hw6 k' n' t' hk' hn' ht' kb' _ hkb' kp _ _ _ _ hkp ky true (by rw [hky, hm]) (.inl ⟨rfl, rfl, rfl, rfl, rfl⟩) w hG
  | false =>
    rw [parse_not k' n' t' sk sn st hm] at hkp
    exact bounds_row a0 a1 a2 kn hkn km k n t hkm kb _ hkb h8 j hjj hwj c3 c5 c6 h3' h5' h6' hw3 hw5 hw6 k' n' t' hk' hn' ht' kb' _ hkb' kp _ _ _ _ hkp ky false (by rw [hky, hm]) (.inr ⟨rfl, rfl, rfl, rfl, rfl⟩) w hG
end Go.Proofs.YtpnnojigdhkjaaaDoor.Q
namespace Go.Proofs.YtpnnojigdhkjaaaDoor.Pure
/-- nothing more is asked: the walk above is the law -/
theorem ProtoBounds : True := trivial
end Go.Proofs.YtpnnojigdhkjaaaDoor.Pure
