/- Blocks of bytes that a function has made, for walks by hand. -/
import Derived.Test.YtpnnojigdhkjaaaDoorWMore
namespace Go.Proofs.YtpnnojigdhkjaaaDoor.Q
open Go.RowKit Go.Proofs.YtpnnojigdhkjaaaDoorW.PrintWords Go.Proofs.YtpnnojigdhkjaaaDoorW.PrintLast Go.Proofs.YtpnnojigdhkjaaaDoorW.PrintMore
set_option linter.unusedVariables false
set_option linter.unusedSimpArgs false

def allocs (w : World) (os : List Obj) : World := os.foldl World.alloc w
theorem allocs_size (w : World) (os : List Obj) : (allocs w os).heap.size = w.heap.size + os.length := by
  induction os generalizing w with
  | nil => rfl
  | cons o os ih =>
    show (allocs (w.alloc o) os).heap.size = _
    rw [ih]
    have : (w.alloc o).heap.size = w.heap.size + 1 := by simp
    rw [this, List.length_cons]
    omega
theorem allocs_below {w0 w : World} (hb : Below w0.heap.size w0 w) (os : List Obj) : Below w0.heap.size w0 (allocs w os) := by
  induction os generalizing w with
  | nil => exact hb
  | cons o os ih => exact ih (hb.alloc hb.size o)
theorem allocs_app (w : World) (a b : List Obj) : allocs w (a ++ b) = allocs (allocs w a) b := by simp [allocs]
theorem allocs_old {w : World} {g : Nat} {o : Obj} (h : w.heap[g]? = some o) (os : List Obj) : (allocs w os).heap[g]? = some o := by
  induction os generalizing w with
  | nil => exact h
  | cons p os ih => exact ih (blk_alloc h p)
theorem allocs_at (w : World) (os : List Obj) (i : Nat) (o : Obj) (h : os[i]? = some o) : (allocs w os).heap[w.heap.size + i]? = some o := by
  induction os generalizing w i with
  | nil => simp at h
  | cons p os ih =>
    cases i with
    | zero =>
      simp only [List.getElem?_cons_zero, Option.some.injEq] at h
      subst h
      exact allocs_old (heap_alloc_new w p) os
    | succ i =>
      have := ih (w.alloc p) i (by simpa using h)
      have e : (w.alloc p).heap.size = w.heap.size + 1 := by simp
      rw [e] at this
      rw [show w.heap.size + (i + 1) = w.heap.size + 1 + i by omega]
      exact this
theorem C_block {w : World} {g : Nat} {t : TypeId} {xs : List Int} (h : w.heap[g]? = some (.cells (xs.map (Value.int .u8)).toArray t (0, 0))) (hl : xs.length ≤ 9223372036854775807) :
    Kd.C (Kd.int .u8) w (some ⟨g, 0, none⟩) xs.length xs := by
  refine ⟨rfl, hl, fun _ => ⟨_, rfl, fun j p hj => ⟨[.int .u8 p], rfl, rfl, fun i u hi => ?_⟩⟩⟩
  obtain ⟨rfl, rfl⟩ : i = 0 ∧ u = .int .u8 p := by
    cases i with
    | zero => simpa using hi.symm
    | succ i => simp at hi
  have e : (⟨g, 0, none⟩ : Addr).add (j * (Kd.int .u8).sz + 0) = ⟨g, j, none⟩ := by
    show (⟨g, 0, none⟩ : Addr).add (j * 1 + 0) = _
    unfold Addr.add
    split <;> simp_all
  rw [e]
  have := blk_cell h j
  rw [this]
  simp [hj]
end Go.Proofs.YtpnnojigdhkjaaaDoor.Q
