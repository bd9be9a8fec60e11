/- ProtoKnown, in plain words: what each of the fourteen rows is read as. -/
import Derived.Test.YtpnnojigdhkjaaaDoorProKnown
namespace Go.Proofs.YtpnnojigdhkjaaaDoor.Q
open Go.RowKit Go.Proofs.YtpnnojigdhkjaaaDoorW.PrintWords Go.Proofs.YtpnnojigdhkjaaaDoorW.PrintLast Go.Proofs.YtpnnojigdhkjaaaDoorW.PrintMore Go.Proofs.YtpnnojigdhkjaaaDoor.Lx
set_option linter.unusedVariables false
set_option linter.unusedSimpArgs false

def kWant (j : Nat) : Int × ByteArray × ByteArray × Int :=
  let q := kReqs.getD j (0, [], [])
  (q.1, ⟨q.2.1.toArray⟩, ⟨q.2.2.toArray⟩, if 0 < q.1 then 0 else 12)
theorem kFacts : ∀ j, j < 14 → parseR (sealI (kRows.getD j [])) = kWant j ∧ (kRows.getD j []).length ≤ 8 ∧ (kRows.getD j []).all byteB = true := by decide +kernel

theorem deadboltlaw15_ProtoKnown.walk (P : True) (a0 : Int) (w : World) (w0 : (Lit.int .i64 a0).wf = true) (hG : GL w) :
    Calls Tryd.prog 6 #[.int .i64 a0] w fun e w' => e = .returned (.bool true) ∧ Below w.heap.size w w' := by
  obtain ⟨j, hj⟩ := Int.eq_ofNat_of_zero_le (Int.emod_nonneg a0 (show (14 : Int) ≠ 0 by decide))
  have hj14 : j < 14 := by
    have := Int.emod_lt_of_pos a0 (show (0 : Int) < 14 by decide)
    omega
  have ha := within15_f a0 14 (by decide) (by decide)
  rw [hj] at ha
  obtain ⟨kn, hkn⟩ := known_ev.exists_
  obtain ⟨h1, h2, h3⟩ := kFacts j hj14
  have hb : Bts (kRows.getD j []) := fun x hx => by
    have := byteB_iff (List.all_eq_true.mp h3 x hx)
    omega
  obtain ⟨ks, hks⟩ := (sealed_ev _ hb (by omega)).exists_
  have hP := Parse_ev _ (sealI_Bts hb) (by rw [sealI_len]; omega)
  rw [h1] at hP
  obtain ⟨kp, hkp⟩ := hP.exists_
  refine known_row j hj14 a0 ha kn hkn _ rfl (by omega) ks _ hks _ _ _ rfl rfl rfl kp _ ?_ hkp w hG
  by_cases h : 0 < (kReqs.getD j (0, [], [])).1
  · exact .inl ⟨if_pos h, h⟩
  · exact .inr ⟨if_neg h, h⟩
end Go.Proofs.YtpnnojigdhkjaaaDoor.Q
namespace Go.Proofs.YtpnnojigdhkjaaaDoor.Pure
/-- nothing more is asked: the walk above is the law -/
theorem ProtoKnown : True := trivial
end Go.Proofs.YtpnnojigdhkjaaaDoor.Pure
