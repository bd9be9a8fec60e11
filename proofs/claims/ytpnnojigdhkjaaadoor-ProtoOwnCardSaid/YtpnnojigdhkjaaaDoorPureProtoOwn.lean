/- ProtoOwn: what Parse gives is its own; what comes in is not altered. In plain words. -/
import Derived.Test.YtpnnojigdhkjaaaDoorProLaw
import Derived.Test.YtpnnojigdhkjaaaDoorQ8
namespace Go.Proofs.YtpnnojigdhkjaaaDoor.Pure
open Go.RowKit Go.Proofs.YtpnnojigdhkjaaaDoor.Q Go.Proofs.YtpnnojigdhkjaaaDoorW.PrintWords Go.Proofs.YtpnnojigdhkjaaaDoorW.PrintLast Go.Proofs.YtpnnojigdhkjaaaDoorW.PrintMore Go.Proofs.YtpnnojigdhkjaaaDoor.Lx
set_option linter.unusedVariables false
set_option linter.unusedSimpArgs false

theorem own_l1 (x2 k : Int) (n t : ByteArray) (hg : ReqOk k n t) : ∀ (d i : Nat) (l : List Int), l.length - i = d → l.length < 4611686018427387904 → EvS (fun j => deadboltlaw15_ProtoOwn.l1 j x2 0 l (i : Int) k n t k n t) true
  | 0, i, l, hd, hl => by
    have h0 : EvS (fun j => deadboltref2_Crc.f j []) 0 := ref2_Crc_ev [] (by intro x hx; simp at hx) (by decide)
    refine EvS.succ ?_
    simp only [deadboltlaw15_ProtoOwn.l1]
    exact EvS.if_neg (by omega) (EvS.if_pos trivial (EvS.if_pos trivial (EvS.if_pos trivial (EvS.bind hg.bytes (EvS.bind hg.ref (EvS.if_pos rfl (EvS.bind h0 (.some_ _))))))))
  | d + 1, i, l, hd, hl => by
    have hw : wrap64 ((i : Int) + 1) = ((i + 1 : Nat) : Int) := by rw [w64 (by omega)]; omega
    refine EvS.succ ?_
    simp only [deadboltlaw15_ProtoOwn.l1]
    refine EvS.if_pos (by omega) (EvS.if_pos (by omega) ?_)
    rw [hw]
    exact own_l1 x2 k n t hg d (i + 1) _ (by rw [List.length_set]; omega) (by rw [List.length_set]; omega)
theorem own_l0 (x2 k : Int) (n t : ByteArray) (hg : ReqOk k n t) : ∀ (d i : Nat) (l : List Int), l.length - i = d → l.length < 4611686018427387904 → EvS (fun j => deadboltlaw15_ProtoOwn.l0 j x2 l 0 (i : Int) k n t k n t) true
  | 0, i, l, hd, hl => by
    refine EvS.succ ?_
    simp only [deadboltlaw15_ProtoOwn.l0]
    exact EvS.if_neg (by omega) (EvS.bind hg.bytes (own_l1 x2 k n t hg _ 0 _ rfl (by have := hg.len; omega)))
  | d + 1, i, l, hd, hl => by
    have hw : wrap64 ((i : Int) + 1) = ((i + 1 : Nat) : Int) := by rw [w64 (by omega)]; omega
    refine EvS.succ ?_
    simp only [deadboltlaw15_ProtoOwn.l0]
    refine EvS.if_pos (by omega) (EvS.if_pos (by omega) ?_)
    rw [hw]
    exact own_l0 x2 k n t hg d (i + 1) _ (by rw [List.length_set]; omega) (by rw [List.length_set]; omega)

theorem ProtoOwn : deadboltlaw15_ProtoOwn.Pure := by
  intro a0 a1 a2 _ h1 _
  refine EvS.exists_ ?_
  unfold deadboltlaw15_ProtoOwn.f
  refine EvS.bind known_ev (EvS.if_pos rfl ?_)
  by_cases hs : (a1.size : Int) > 500
  · exact EvS.if_pos hs (.some_ _)
  · obtain ⟨k, n, t, hm, hg, _⟩ := Make_ev 0 a0 a1 (by omega)
    exact EvS.if_neg hs (EvS.bind hm (EvS.bind hg.ref (EvS.bind hg.parse (own_l0 a2 k n t hg _ 0 _ rfl (by have := hg.len; omega)))))
end Go.Proofs.YtpnnojigdhkjaaaDoor.Pure
