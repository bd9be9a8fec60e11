/- ProtoKnown, walked by hand: one walk for each of the fourteen rows, one text for all. -/
import Derived.Test.YtpnnojigdhkjaaaDoorProSeal
import Derived.Test.YtpnnojigdhkjaaaDoorHeap
import Derived.Test.YtpnnojigdhkjaaaDoorQ5
import Derived.Test.YtpnnojigdhkjaaaDoorQ6
import Derived.Deep.QuietTactic
import Derived.BigQuiet
namespace Go.Proofs.YtpnnojigdhkjaaaDoor.Q
open Go.RowKit Go.Proofs.YtpnnojigdhkjaaaDoorW.PrintWords Go.Proofs.YtpnnojigdhkjaaaDoorW.PrintLast Go.Proofs.YtpnnojigdhkjaaaDoorW.PrintMore Go.Proofs.YtpnnojigdhkjaaaDoor.Lx
set_option linter.unusedVariables false
set_option linter.unusedSimpArgs false

def kRows : List (List Int) := [[3, 0, 0, 0], [1, 1, 97, 2, 0, 123, 125], [2, 1, 98, 0, 0], [6, 4, 109, 97, 105, 110, 0, 0], [3, 1, 97, 0, 0], [2, 0, 0, 0], [5, 0, 1, 0, 120], [0, 0, 0, 0], [8, 0, 0, 0], [1, 1, 65, 0, 0], [1, 2, 97, 0, 0], [3, 0, 0, 0, 0], [7, 0, 0, 0], [4, 0, 0, 0]]
def kReqs : List (Int × List UInt8 × List UInt8) := [(3, [], []), (1, [97], [123, 125]), (2, [98], []), (6, [109, 97, 105, 110], []), (0, [], []), (0, [], []), (0, [], []), (0, [], []), (0, [], []), (0, [], []), (0, [], []), (0, [], []), (7, [], []), (4, [], [])]
def kObjs (b : Nat) : List Obj :=
  kRows.map (fun r => Obj.cells (r.map (Value.int .u8)).toArray 5) ++
  [.cells (kRows.zipIdx.map fun p => Value.slice (some ⟨b + p.2, 0, none⟩) p.1.length p.1.length).toArray 28,
   .cells (kReqs.flatMap fun q => [Value.int .i64 q.1, .string ⟨q.2.1.toArray⟩, .string ⟨q.2.2.toArray⟩]).toArray 30]
theorem kObjs_row (b j : Nat) (hj : j < 14) : (kObjs b)[j]? = some (.cells ((kRows.getD j []).map (Value.int .u8)).toArray 5 (0, 0)) := by
  obtain h | h | h | h | h | h | h | h | h | h | h | h | h | h : j = 0 ∨ j = 1 ∨ j = 2 ∨ j = 3 ∨ j = 4 ∨ j = 5 ∨ j = 6 ∨ j = 7 ∨ j = 8 ∨ j = 9 ∨ j = 10 ∨ j = 11 ∨ j = 12 ∨ j = 13 := by omega
  all_goals (subst h; rfl)
theorem kObjs_l (w : World) (j : Nat) (hj : j < 14) : (allocs w (kObjs w.heap.size)).cell? ⟨w.heap.size + 14, j, none⟩ = some (.slice (some ⟨w.heap.size + j, 0, none⟩) (kRows.getD j []).length (kRows.getD j []).length) := by
  refine (blk_cell (allocs_at w _ 14 _ rfl) j).trans ?_
  obtain h | h | h | h | h | h | h | h | h | h | h | h | h | h : j = 0 ∨ j = 1 ∨ j = 2 ∨ j = 3 ∨ j = 4 ∨ j = 5 ∨ j = 6 ∨ j = 7 ∨ j = 8 ∨ j = 9 ∨ j = 10 ∨ j = 11 ∨ j = 12 ∨ j = 13 := by omega
  all_goals (subst h; rfl)
theorem kObjs_w (w : World) (j : Nat) (hj : j < 14) : (allocs w (kObjs w.heap.size)).cell? ⟨w.heap.size + 15, j * 3, none⟩ = some (.int .i64 (kReqs.getD j (0, [], [])).1) ∧
    (allocs w (kObjs w.heap.size)).cell? ⟨w.heap.size + 15, j * 3 + 1, none⟩ = some (.string ⟨(kReqs.getD j (0, [], [])).2.1.toArray⟩) ∧
    (allocs w (kObjs w.heap.size)).cell? ⟨w.heap.size + 15, j * 3 + 2, none⟩ = some (.string ⟨(kReqs.getD j (0, [], [])).2.2.toArray⟩) := by
  refine ⟨(blk_cell (allocs_at w _ 15 _ rfl) _).trans ?_, (blk_cell (allocs_at w _ 15 _ rfl) _).trans ?_, (blk_cell (allocs_at w _ 15 _ rfl) _).trans ?_⟩
  all_goals
    obtain h | h | h | h | h | h | h | h | h | h | h | h | h | h : j = 0 ∨ j = 1 ∨ j = 2 ∨ j = 3 ∨ j = 4 ∨ j = 5 ∨ j = 6 ∨ j = 7 ∨ j = 8 ∨ j = 9 ∨ j = 10 ∨ j = 11 ∨ j = 12 ∨ j = 13 := by omega
    all_goals (subst h; rfl)

set_option maxHeartbeats 1600000 in
theorem known_row (j : Nat) (hj : j < 14) (a0 : Int) (ha : deadboltlaw15_within.f a0 14 = some (j : Int)) (kn : Nat) (hkn : deadboltlaw15_known.f kn = some true) (row : List Int) (hrow : row = kRows.getD j []) (hlen : row.length ≤ 9223372036854775807)
    (ks : Nat) (sl : List Int) (hks : deadboltlaw15_sealed.f ks row = some sl) (kd : Int) (nm tx : ByteArray) (hkd : kd = (kReqs.getD j (0, [], [])).1) (hnm : nm = ⟨(kReqs.getD j (0, [], [])).2.1.toArray⟩) (htx : tx = ⟨(kReqs.getD j (0, [], [])).2.2.toArray⟩)
    (kp : Nat) (er : Int) (her : er = 0 ∧ 0 < kd ∨ er = 12 ∧ ¬ 0 < kd) (hkp : proto_Parse.f kp sl = some (kd, nm, tx, er)) (w : World) (hG : GL w) :
    Calls Tryd.prog 6 #[.int .i64 a0] w fun e w' => e = .returned (.bool true) ∧ Below w.heap.size w w' := by
  have HG := Aside0.mk hG
  have HK := Aside0.mk hkn
  have HA := Aside0.mk ha
  have HS := Aside0.mk hks
  have HP := Aside0.mk hkp
  clear hG hkn ha hks hkp
  go_enter Tryd.func6, Tryd.ntmps6
  go_wp2_with fail
  refine (deadboltlaw15_known.calls kn true _ HK.out HG.out).mono ?_
  rintro e w1 ⟨rfl, hb1⟩
  go_wp2_with fail
  show Calls Tryd.prog 15 _ (allocs w1 (kObjs w1.heap.size)) _
  have hX := allocs_below hb1 (kObjs w1.heap.size)
  have hL0 := kObjs_l w1 j hj
  have hR0 := C_block (allocs_at w1 _ j _ (kObjs_row w1.heap.size j hj)) (by rw [← hrow]; exact hlen)
  have hW0 := kObjs_w w1 j hj
  rw [← hrow] at hL0 hR0
  rw [← hkd, ← hnm, ← htx] at hW0
  have hL := Aside0.mk hL0
  have hR := Aside0.mk hR0
  have hW := Aside0.mk hW0
  clear hL0 hR0 hW0 hrow hkd hnm htx
  generalize allocs w1 (kObjs w1.heap.size) = X at hX hL hR hW ⊢
  refine (deadboltlaw15_within.calls a0 14 (j : Int) _ HA.out).mono ?_
  rintro e w2 ⟨rfl, hd⟩
  obtain ⟨nd, rfl⟩ := hd
  have q0 : decide ((j : Int) < 14) = true := decide_eq_true (by omega)
  have q1 : decide (0 ≤ (j : Int)) = true := decide_eq_true (by omega)
  have q2 : (j : Int) < 14 := by omega
  have q3 : 0 ≤ (j : Int) := by omega
  have hl : (X.drewN nd).cell? ⟨w1.heap.size + 14, j, none⟩ = _ := hL.out
  go_wp2_with fail
  refine (deadboltlaw15_sealed.calls ks _ _ row sl _ (Kd.C_drewN hR.out nd) (Nat.le_refl _) HS.out).mono ?_
  rintro e w3 ⟨v0, rfl, hv, hb3⟩
  obtain ⟨A3, c3, rfl, hc3, hC3⟩ := Kd.R_reads hv
  have hX3 := below_step (pw_below_drewN hX nd) hb3
  clear hl
  go_wp2_with fail
  refine (proto_Parse.calls kp A3 c3 sl kd nm tx _ _ hC3 hc3 HP.out (HG.out.of_below hX3)).mono ?_
  rintro e w4 ⟨rfl, hb4⟩
  have hX4 := below_step hX3 hb4
  have keep : ∀ (p : Addr) (v : Value), X.cell? p = some v → (w4.alloc (.cells #[.int .i64 kd, .string nm, .string tx] 30)).cell? p = some v := by
    intro p v h
    have h2 : (X.drewN nd).cell? p = some v := h
    have h3 := (hb3.cell (World.block_lt_of_cell? _ _ h2)).trans h2
    have h4 := (hb4.cell (World.block_lt_of_cell? _ _ h3)).trans h3
    exact ((below_alloc (Below.refl _ w4) _).cell (World.block_lt_of_cell? _ _ h4)).trans h4
  go_wp2_with fail
  have g0 := keep _ _ hW.out.1
  have g1 := keep _ _ hW.out.2.1
  have g2 := keep _ _ hW.out.2.2
  have x0 := blk_cell (heap_alloc_new w4 (.cells #[.int .i64 kd, .string nm, .string tx] 30)) 0
  have x1 := blk_cell (heap_alloc_new w4 (.cells #[.int .i64 kd, .string nm, .string tx] 30)) 1
  have x2 := blk_cell (heap_alloc_new w4 (.cells #[.int .i64 kd, .string nm, .string tx] 30)) 2
  have hu30 := Tryd.underlying30
  rcases her with ⟨rfl, hk⟩ | ⟨rfl, hk⟩
  · have hk' : decide (0 < kd) = true := decide_eq_true hk
    go_quiet (fail)
    go_wp2
    first | exact ⟨rfl, pw_below_drewN (below_alloc hX4 _) _⟩ | (go_ret; exact ⟨rfl, pw_below_drewN (below_alloc hX4 _) _⟩) | exact ⟨rfl, _, rfl, rfl, pw_below_drewN (below_alloc hX4 _) _⟩ | exact ⟨_, rfl, rfl, pw_below_drewN (below_alloc hX4 _) _⟩
  · have hk' : decide (0 < kd) = false := decide_eq_false (by omega)
    go_quiet (fail)
    go_wp2
    first | exact ⟨rfl, pw_below_drewN (below_alloc hX4 _) _⟩ | (go_ret; exact ⟨rfl, pw_below_drewN (below_alloc hX4 _) _⟩) | exact ⟨rfl, _, rfl, rfl, pw_below_drewN (below_alloc hX4 _) _⟩ | exact ⟨_, rfl, rfl, pw_below_drewN (below_alloc hX4 _) _⟩
end Go.Proofs.YtpnnojigdhkjaaaDoor.Q
