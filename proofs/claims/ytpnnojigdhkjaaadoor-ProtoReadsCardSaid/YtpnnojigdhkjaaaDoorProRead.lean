/- proto.read and what it calls: a reader that takes bytes and panics where they are too few: contracts by hand. -/
import Derived.Test.YtpnnojigdhkjaaaDoorQ1
import Derived.Test.YtpnnojigdhkjaaaDoorGL
import Derived.Recover
import Derived.Defers
import Derived.WalkSpells
import Derived.WalkLawsBesides
namespace Go.Proofs.YtpnnojigdhkjaaaDoor.Q
open Go.RowKit Go.Proofs.YtpnnojigdhkjaaaDoorW.PrintWords Go.Proofs.YtpnnojigdhkjaaaDoorW.PrintLast Go.Proofs.YtpnnojigdhkjaaaDoorW.PrintMore
set_option linter.unusedVariables false
set_option linter.unusedSimpArgs false

/-- the panic of a reader whose bytes are too few -/
def shortP : List PanicEntry := [{ v := .iface 57 (.agg #[]), recovered := false }]

theorem take_short (g : Nat) (A : Option Addr) (len cap : Nat) (n : Int) (w : World) (hb : w.heap[g]? = some (.cells #[.slice A len cap] 61 (0, 0))) (hn : (len : Int) < n) :
    Calls Tryd.prog 27 #[.pointer (some ⟨g, 0, none⟩), .int .i64 n] w fun e w' => e = .panicked shortP ∧ w = w' := by
  have hc : w.cell? ⟨g, 0, none⟩ = some (.slice A len cap) := blk_cell hb 0
  have q : decide ((len : Int) < n) = true := decide_eq_true hn
  go_enter Tryd.func27, Tryd.ntmps27
  go_wp2
  exact ⟨rfl, rfl, rfl⟩

/-- what is left of a slice behind its first n cells -/
def Cut (A : Option Addr) (len cap n : Nat) (A2 : Option Addr) (c2 : Nat) : Prop := (cap = n ∧ A2 = A ∧ c2 = 0) ∨ (n < cap ∧ ∃ ad, A = some ad ∧ A2 = some (ad.add n) ∧ c2 = cap - n)
theorem take_ok (g : Nat) (A : Option Addr) (len cap : Nat) (n : Nat) (w : World) (hb : w.heap[g]? = some (.cells #[.slice A len cap] 61 (0, 0))) (hn : n ≤ len) (hlc : len ≤ cap) (hA : cap = 0 ∨ ∃ ad, A = some ad) :
    Calls Tryd.prog 27 #[.pointer (some ⟨g, 0, none⟩), .int .i64 n] w fun e w' => e = .returned (.slice A n cap) ∧ ∃ A2 c2, Cut A len cap n A2 c2 ∧ w.setCell ⟨g, 0, none⟩ (.slice A2 (len - n) c2) = w' := by
  have hc : w.cell? ⟨g, 0, none⟩ = some (.slice A len cap) := blk_cell hb 0
  have hf : w.frozen? ⟨g, 0, none⟩ = false := blk_frozen hb 0
  have q : decide ((len : Int) < (n : Int)) = false := decide_eq_false (by omega)
  have q' : decide (len < n) = false := decide_eq_false (by omega)
  by_cases hcn : cap = n
  · obtain rfl : len = n := by omega
    subst hcn
    clear hn hlc hA
    go_enter Tryd.func27, Tryd.ntmps27
    go_wp2
    go_ret
    exact ⟨rfl, A, 0, .inl ⟨rfl, rfl, rfl⟩, by simp⟩
  · obtain ⟨ad, rfl⟩ : ∃ ad, A = some ad := by
      rcases hA with h | h
      · omega
      · exact h
    have hlt : n < cap := by omega
    clear hA
    go_enter Tryd.func27, Tryd.ntmps27
    go_wp2
    go_ret
    exact ⟨rfl, _, _, .inr ⟨hlt, ad, rfl, rfl, rfl⟩, rfl⟩

/-- a reader at block g: what is left are the bytes xs -/
structure IsRd (w : World) (g : Nat) (A : Option Addr) (xs : List Int) (cap : Nat) : Prop where
  blk : w.heap[g]? = some (.cells #[.slice A xs.length cap] 61 (0, 0))
  le : xs.length ≤ cap
  ad : ∃ ad, A = some ad
def restA (A : Option Addr) (cap n : Nat) : Option Addr := if cap = n then A else A.map (·.add (n * 1))
def restV (A : Option Addr) (xs : List Int) (cap n : Nat) : Value := .slice (restA A cap n) (xs.drop n).length (cap - n)
theorem IsRd.take {w : World} {g : Nat} {A : Option Addr} {xs : List Int} {cap : Nat} (h : IsRd w g A xs cap) (n : Nat) (hn : n ≤ xs.length) : IsRd (w.setCell ⟨g, 0, none⟩ (restV A xs cap n)) g (restA A cap n) (xs.drop n) (cap - n) := by
  refine ⟨blk_put h.blk 0 _ rfl, ?_, ?_⟩
  · have := h.le
    simp
    omega
  · obtain ⟨ad, rfl⟩ := h.ad
    unfold restA
    split
    · exact ⟨_, rfl⟩
    · exact ⟨_, rfl⟩
theorem take_l {w : World} {g : Nat} {A : Option Addr} {xs : List Int} {cap : Nat} (h : IsRd w g A xs cap) (n : Nat) (hn : n ≤ xs.length) :
    Calls Tryd.prog 27 #[.pointer (some ⟨g, 0, none⟩), .int .i64 n] w fun e w' => e = .returned (.slice A n cap) ∧ w' = w.setCell ⟨g, 0, none⟩ (restV A xs cap n) := by
  refine (take_ok g A xs.length cap n w h.blk hn h.le (.inr h.ad)).mono ?_
  rintro e w' ⟨rfl, A2, c2, hcut, rfl⟩
  refine ⟨rfl, ?_⟩
  obtain ⟨ad, rfl⟩ := h.ad
  rcases hcut with ⟨h1, rfl, rfl⟩ | ⟨h1, ad', h2, rfl, rfl⟩
  · simp [restV, restA, h1]
  · obtain rfl := Option.some.inj h2
    have : ¬ cap = n := by omega
    simp [restV, restA, this]
theorem bytes_at {w : World} {ad : Addr} {xs : List Int} (h : Kd.C (Kd.int .u8) w (some ad) xs.length xs) (j : Nat) (hj : j < xs.length) : w.cell? (ad.add j) = some (.int .u8 (xs.getD j 0)) := by
  obtain ⟨ad', c, he, hl, hK, hc⟩ := Kd.C_get h 0 (j : Int) (by omega) (by omega)
  obtain rfl := Option.some.inj he
  have hK' : c = [.int .u8 (xs.getD (j : Int).toNat 0)] := hK
  have h2 := hc 0 _ (by rw [hK']; rfl)
  have e : (j : Int).toNat * (Kd.int .u8).sz + 0 = j := by show (j : Int).toNat * 1 + 0 = j; omega
  rw [e, Int.toNat_natCast] at h2
  exact h2
theorem cell_set {w : World} {g : Nat} {v u : Value} {a : Addr} (h : w.cell? a = some u) (hne : a.block ≠ g) : (w.setCell ⟨g, 0, none⟩ v).cell? a = some u :=
  (World.cell?_of_block (w := w) (Below.heap_setCell w ⟨g, 0, none⟩ v a.block hne)).trans h
theorem add_block (a : Addr) (n : Nat) : (a.add n).block = a.block := by unfold Addr.add; split <;> rfl
theorem add_pos' (a : Addr) (n : Nat) (h : 0 < n) : a.add n = ⟨a.block, a.off + n, none⟩ := by unfold Addr.add; split <;> simp_all
theorem add_zero' (a : Addr) : a.add 0 = a := by unfold Addr.add; split <;> simp_all

theorem wraps_i64' (n : Int) (h0 : 0 ≤ n) (h1 : n < 2 ^ 16) : IntKind.i64.wrap n = n := by rw [IntKind.wrap_i64]; omega
theorem or_i64 (x y : Int) (hx : 0 ≤ x) (hx' : x % 256 = 0) (hx1 : x < 65536) (h0 : 0 ≤ y) (h1 : y < 256) : bits .or .i64 x y = x + y :=
  bits_join .i64 16 (by decide) wraps_i64' 8 x y hx (by omega) (by omega) h0 (by omega) (by omega)
theorem or_i64' (x y : Int) (hx : 0 ≤ x) (hx' : x % 256 = 0) (hx1 : x < 65536) (h0 : 0 ≤ y) (h1 : y < 256) : bits .or .i64 y x = y + x := by
  have h := or_i64 x y hx hx' hx1 h0 h1
  obtain ⟨a, rfl⟩ := Int.eq_ofNat_of_zero_le hx
  obtain ⟨b, rfl⟩ := Int.eq_ofNat_of_zero_le h0
  rw [(bits_nat .i64 16 (by decide) wraps_i64' a b (by omega) (by omega)).2] at h
  rw [(bits_nat .i64 16 (by decide) wraps_i64' b a (by omega) (by omega)).2, Nat.or_comm, h, Int.add_comm]
theorem number_short (g : Nat) (A : Option Addr) (len cap : Nat) (n : Int) (w : World) (hb : w.heap[g]? = some (.cells #[.slice A len cap] 61 (0, 0))) (hn : (len : Int) < n) :
    Calls Tryd.prog 26 #[.pointer (some ⟨g, 0, none⟩), .int .i64 n] w fun e w' => e = .panicked shortP ∧ w = w' := by
  go_enter Tryd.func26, Tryd.ntmps26
  go_wp2_with (go_at_call 27; refine (take_short g A len cap n w hb hn).mono ?_; rintro e w' ⟨rfl, rfl⟩)
  exact ⟨rfl, rfl, rfl⟩

set_option maxHeartbeats 400000 in
theorem number_1 {w : World} {g : Nat} {ad : Addr} {x0 : Int} {xs : List Int} {cap : Nat} (h : IsRd w g (some ad) (x0 :: xs) cap) (h0 : 0 ≤ x0) (h1 : x0 ≤ 255) (hc : Kd.C (Kd.int .u8) w (some ad) (x0 :: xs).length (x0 :: xs)) (hg : g ≠ ad.block) :
    Calls Tryd.prog 26 #[.pointer (some ⟨g, 0, none⟩), .int .i64 1] w fun e w' => e = .returned (.int .i64 x0) ∧ w' = w.setCell ⟨g, 0, none⟩ (restV (some ad) (x0 :: xs) cap 1) := by
  have hcell0 := bytes_at hc 0 (by simp)
  rw [add_zero'] at hcell0
  have hcell : (w.setCell ⟨g, 0, none⟩ (restV (some ad) (x0 :: xs) cap 1)).cell? ad = some (.int .u8 x0) := cell_set hcell0 (fun e => hg e.symm)
  have hcell' : (w.setCell ⟨g, 0, none⟩ (restV (some ad) (x0 :: xs) cap 1)).cell? (ad.add 0) = some (.int .u8 x0) := by rw [add_zero']; exact hcell
  clear hcell0 hc
  have hT := Aside0.mk (take_l h 1 (by simp))
  clear h
  go_enter Tryd.func26, Tryd.ntmps26
  go_wp2_with (go_at_call 27; refine hT.out.mono ?_; rintro e w' ⟨rfl, rfl⟩)
  clear hT
  go_loop [5, 12] (fun v5 v12 => (v5 = .int .i64 0 ∧ v12 = .int .i64 0) ∨ (v5 = .int .i64 x0 ∧ v12 = .int .i64 1)) (fun _ v12 => 1 - (intOf v12).toNat)
  case atStart => exact .inl ⟨rfl, rfl⟩
  case round =>
    rcases hrel with ⟨rfl, rfl⟩ | ⟨rfl, rfl⟩
    · go_wp2
      go_round
      case rel =>
        refine .inr ⟨?_, rfl⟩
        rw [or_i64 0 x0 (by omega) (by omega) (by omega) h0 (by omega), Int.zero_add]
      case measure => simp [intOf]
    · go_wp2
      go_ret
      exact ⟨rfl, rfl⟩

set_option maxHeartbeats 400000 in
theorem number_2 {w : World} {g : Nat} {ad : Addr} {x0 x1 : Int} {xs : List Int} {cap : Nat} (h : IsRd w g (some ad) (x0 :: x1 :: xs) cap) (h0 : 0 ≤ x0) (h1 : x0 ≤ 255) (h2 : 0 ≤ x1) (h3 : x1 ≤ 255) (hc : Kd.C (Kd.int .u8) w (some ad) (x0 :: x1 :: xs).length (x0 :: x1 :: xs)) (hg : g ≠ ad.block) :
    Calls Tryd.prog 26 #[.pointer (some ⟨g, 0, none⟩), .int .i64 2] w fun e w' => e = .returned (.int .i64 (x0 + x1 * 256)) ∧ w' = w.setCell ⟨g, 0, none⟩ (restV (some ad) (x0 :: x1 :: xs) cap 2) := by
  have hcell0 := bytes_at hc 0 (by simp)
  have hcell1 := bytes_at hc 1 (by simp)
  rw [add_zero'] at hcell0
  have hcell : (w.setCell ⟨g, 0, none⟩ (restV (some ad) (x0 :: x1 :: xs) cap 2)).cell? ad = some (.int .u8 x0) := cell_set hcell0 (fun e => hg e.symm)
  have hcell' : (w.setCell ⟨g, 0, none⟩ (restV (some ad) (x0 :: x1 :: xs) cap 2)).cell? (ad.add 0) = some (.int .u8 x0) := by rw [add_zero']; exact hcell
  have hcell2 : (w.setCell ⟨g, 0, none⟩ (restV (some ad) (x0 :: x1 :: xs) cap 2)).cell? ⟨ad.block, ad.off + 1, none⟩ = some (.int .u8 x1) := by
    rw [add_pos' ad 1 (by decide)] at hcell1
    exact cell_set hcell1 (fun e => hg e.symm)
  clear hcell0 hcell1 hc
  have hT := Aside0.mk (take_l h 2 (by simp))
  clear h
  go_enter Tryd.func26, Tryd.ntmps26
  go_wp2_with (go_at_call 27; refine hT.out.mono ?_; rintro e w' ⟨rfl, rfl⟩)
  clear hT
  go_loop [5, 12] (fun v5 v12 => (v5 = .int .i64 0 ∧ v12 = .int .i64 0) ∨ (v5 = .int .i64 x0 ∧ v12 = .int .i64 1) ∨ (v5 = .int .i64 (x0 + x1 * 256) ∧ v12 = .int .i64 2)) (fun _ v12 => 2 - (intOf v12).toNat)
  case atStart => exact .inl ⟨rfl, rfl⟩
  case round =>
    rcases hrel with ⟨rfl, rfl⟩ | ⟨rfl, rfl⟩ | ⟨rfl, rfl⟩
    · go_wp2
      go_round
      case rel =>
        refine .inr (.inl ⟨?_, rfl⟩)
        rw [or_i64 0 x0 (by omega) (by omega) (by omega) h0 (by omega), Int.zero_add]
      case measure => simp [intOf]
    · go_wp2
      go_round
      case rel =>
        refine .inr (.inr ⟨?_, rfl⟩)
        rw [or_i64' (x1 * 256) x0 (by omega) (by omega) (by omega) h0 (by omega)]
      case measure => simp [intOf]
    · go_wp2
      go_ret
      exact ⟨rfl, rfl⟩

/-- what the deferred function leaves where it has caught a panic -/
def caughtW (w : World) (o s : Nat) : World :=
  ((((w.alloc (.cells #[] 57)).setCell ⟨o, 0, none⟩ (.int .i64 0)).setCell ⟨o, 1, none⟩ (.string ⟨#[]⟩)).setCell ⟨o, 2, none⟩ (.string ⟨#[]⟩)).setCell ⟨s, 0, none⟩ (.bool false)
set_option maxHeartbeats 400000 in
theorem catch_short (o s : Nat) (hos : s ≠ o) (w : World) (c0 c1 c2 c3 : Value) (ho : w.heap[o]? = some (.cells #[c0, c1, c2] 30 (0, 0))) (hs : w.heap[s]? = some (.cells #[c3] 4 (0, 0))) :
    CallsD Tryd.prog 25 #[.pointer (some ⟨o, 0, none⟩), .pointer (some ⟨s, 0, none⟩)] (.panicking shortP) w fun e u' w' =>
      e = .returned (.tuple #[]) ∧ u' = .panicking [{ v := .iface 57 (.agg #[]), recovered := true }] ∧ caughtW w o s = w' := by
  have hta : ∀ (W : World), (Instr.typeAssert (.iface 57 (.agg #[])) 20 57 true).run Tryd.prog W = .ok (.tuple #[.agg #[], .bool true]) W := fun W => by rfl
  have hu30 := Tryd.underlying30
  refine callsD_of_wpS Tryd.func25 rfl fun c₀ cs hu => ?_
  apply wpS_seq
  apply wpS_region
  simp [wpOpsS, go_sem, recoverD, hu, Tryd.ntmps25, Exit.thenS, shortP, hta]
  simp only [Array.replicate_succ, Array.replicate_zero, List.push_toArray, List.setIfInBounds_toArray, List.set_cons_zero, List.set_cons_succ, List.append_toArray, List.cons_append, List.nil_append, Array.replicate_zero]
  have f1 : (w.alloc (.cells #[] 57)).heap[o]? = some (.cells #[c0, c1, c2] 30 (0, 0)) := blk_alloc ho _
  have f2 : (w.alloc (.cells #[] 57)).heap[s]? = some (.cells #[c3] 4 (0, 0)) := blk_alloc hs _
  have g0 := blk_cell f1 0
  have g1 := blk_cell f1 1
  have g2 := blk_cell f1 2
  have g3 := blk_cell f2 0
  have z0 := blk_frozen f1 0
  have z1 := blk_frozen f1 1
  have z2 := blk_frozen f1 2
  have z3 := blk_frozen f2 0
  have f3 : (((((w.alloc (.cells #[] 57)).setCell ⟨o, 0, none⟩ (.int .i64 0)).setCell ⟨o, 1, none⟩ (.string ⟨#[]⟩)).setCell ⟨o, 2, none⟩ (.string ⟨#[]⟩))).heap[s]? = some (.cells #[c3] 4 (0, 0)) := blk_far (blk_far (blk_far f2 hos _) hos _) hos _
  have g4 := blk_cell f3 0
  have z4 := blk_frozen f3 0
  clear f1 f2 f3 ho hs
  refine wpS_of_wp ?_
  go_wp2
  cases c₀
  simp_all [bodyPostS, results, Tryd.results25, caughtW]

set_option maxHeartbeats 400000 in
theorem catch_idle (o s : Nat) (w : World) :
    CallsD Tryd.prog 25 #[.pointer (some ⟨o, 0, none⟩), .pointer (some ⟨s, 0, none⟩)] .returning w fun e u' w' =>
      e = .returned (.tuple #[]) ∧ u' = .returning ∧ w.alloc (.cells #[] 57) = w' := by
  have hta : ∀ (W : World), (Instr.typeAssert .nilIface 20 57 true).run Tryd.prog W = .ok (.tuple #[.agg #[], .bool false]) W := fun W => by rfl
  refine callsD_of_wpS Tryd.func25 rfl fun c₀ cs hu => ?_
  apply wpS_seq
  apply wpS_region
  simp [wpOpsS, go_sem, recoverD, hu, Tryd.ntmps25, Exit.thenS, hta]
  simp only [Array.replicate_succ, Array.replicate_zero, List.push_toArray, List.setIfInBounds_toArray, List.set_cons_zero, List.set_cons_succ, List.append_toArray, List.cons_append, List.nil_append, Array.replicate_zero]
  refine wpS_of_wp ?_
  go_wp2
  cases c₀
  simp_all [bodyPostS, results, Tryd.results25]

/-- what stands in memory while proto.read is under way -/
structure St (w0 w : World) (o s g : Nat) (c0 c1 c2 : Value) (A : Option Addr) (xs : List Int) (cap : Nat) : Prop where
  out : w.heap[o]? = some (.cells #[c0, c1, c2] 30 (0, 0))
  is : w.heap[s]? = some (.cells #[.bool false] 4 (0, 0))
  rd : IsRd w g A xs cap
  bel : Below w0.heap.size w0 w
  ge : w0.heap.size ≤ o ∧ w0.heap.size ≤ s ∧ w0.heap.size ≤ g
  ne : o ≠ s ∧ o ≠ g ∧ s ≠ g
  byt : Kd.C (Kd.int .u8) w0 A xs.length xs
theorem C_restA {w : World} {A : Option Addr} {xs : List Int} {cap n : Nat} (h : Kd.C (Kd.int .u8) w A xs.length xs) (hn : n ≤ xs.length) (hc : xs.length ≤ cap) : Kd.C (Kd.int .u8) w (restA A cap n) (xs.drop n).length (xs.drop n) := Kd.C_drop h hn hc
theorem St.rest {w0 w : World} {o s g : Nat} {c0 c1 c2 : Value} {A : Option Addr} {xs : List Int} {cap : Nat} (h : St w0 w o s g c0 c1 c2 A xs cap) (n : Nat) (hn : n ≤ xs.length) :
    St w0 (w.setCell ⟨g, 0, none⟩ (restV A xs cap n)) o s g c0 c1 c2 (restA A cap n) (xs.drop n) (cap - n) :=
  ⟨blk_far h.out h.ne.2.1 _, blk_far h.is h.ne.2.2 _, h.rd.take n hn, h.bel.setCell h.ge.2.2 _, h.ge, h.ne, C_restA h.byt hn h.rd.le⟩
theorem IsRd.far {w : World} {g : Nat} {A : Option Addr} {xs : List Int} {cap : Nat} (h : IsRd w g A xs cap) {p : Addr} (hp : g ≠ p.block) (u : Value) : IsRd (w.setCell p u) g A xs cap := ⟨blk_far h.blk hp u, h.le, h.ad⟩
theorem St.put0 {w0 w : World} {o s g : Nat} {c0 c1 c2 : Value} {A : Option Addr} {xs : List Int} {cap : Nat} (h : St w0 w o s g c0 c1 c2 A xs cap) (v : Value) : St w0 (w.setCell ⟨o, 0, none⟩ v) o s g v c1 c2 A xs cap :=
  ⟨blk_put h.out 0 v rfl, blk_far h.is h.ne.1.symm _, h.rd.far h.ne.2.1.symm v, h.bel.setCell h.ge.1 _, h.ge, h.ne, h.byt⟩
theorem St.put1 {w0 w : World} {o s g : Nat} {c0 c1 c2 : Value} {A : Option Addr} {xs : List Int} {cap : Nat} (h : St w0 w o s g c0 c1 c2 A xs cap) (v : Value) : St w0 (w.setCell ⟨o, 1, none⟩ v) o s g c0 v c2 A xs cap :=
  ⟨blk_put h.out 1 v rfl, blk_far h.is h.ne.1.symm _, h.rd.far h.ne.2.1.symm v, h.bel.setCell h.ge.1 _, h.ge, h.ne, h.byt⟩
theorem St.put2 {w0 w : World} {o s g : Nat} {c0 c1 c2 : Value} {A : Option Addr} {xs : List Int} {cap : Nat} (h : St w0 w o s g c0 c1 c2 A xs cap) (v : Value) : St w0 (w.setCell ⟨o, 2, none⟩ v) o s g c0 c1 v A xs cap :=
  ⟨blk_put h.out 2 v rfl, blk_far h.is h.ne.1.symm _, h.rd.far h.ne.2.1.symm v, h.bel.setCell h.ge.1 _, h.ge, h.ne, h.byt⟩
theorem St.take {w0 w : World} {o s g : Nat} {c0 c1 c2 : Value} {A : Option Addr} {xs : List Int} {cap : Nat} (h : St w0 w o s g c0 c1 c2 A xs cap) (n : Nat) (hn : n ≤ xs.length) :
    Calls Tryd.prog 27 #[.pointer (some ⟨g, 0, none⟩), .int .i64 n] w fun e w' => e = .returned (.slice A n cap) ∧ St w0 w' o s g c0 c1 c2 (restA A cap n) (xs.drop n) (cap - n) := by
  refine (take_l h.rd n hn).mono ?_
  rintro e w' ⟨rfl, rfl⟩
  exact ⟨rfl, h.rest n hn⟩
theorem St.block_ne {w0 w : World} {o s g : Nat} {c0 c1 c2 : Value} {ad : Addr} {xs : List Int} {cap : Nat} (h : St w0 w o s g c0 c1 c2 (some ad) xs cap) (hx : 0 < xs.length) : g ≠ ad.block := by
  have hc := bytes_at h.byt 0 hx
  have := World.block_lt_of_cell? w0 _ hc
  rw [add_block] at this
  have := h.ge.2.2
  omega
theorem St.number1 {w0 w : World} {o s g : Nat} {c0 c1 c2 : Value} {A : Option Addr} {x0 : Int} {xs : List Int} {cap : Nat} (h : St w0 w o s g c0 c1 c2 A (x0 :: xs) cap) (h0 : 0 ≤ x0 ∧ x0 ≤ 255) :
    Calls Tryd.prog 26 #[.pointer (some ⟨g, 0, none⟩), .int .i64 1] w fun e w' => e = .returned (.int .i64 x0) ∧ St w0 w' o s g c0 c1 c2 (restA A cap 1) xs (cap - 1) := by
  obtain ⟨ad, rfl⟩ := h.rd.ad
  refine (number_1 h.rd h0.1 h0.2 (Kd.C_below h.byt h.bel) (h.block_ne (by simp))).mono ?_
  rintro e w' ⟨rfl, rfl⟩
  exact ⟨rfl, h.rest 1 (by simp)⟩
theorem St.number2 {w0 w : World} {o s g : Nat} {c0 c1 c2 : Value} {A : Option Addr} {x0 x1 : Int} {xs : List Int} {cap : Nat} (h : St w0 w o s g c0 c1 c2 A (x0 :: x1 :: xs) cap) (h0 : 0 ≤ x0 ∧ x0 ≤ 255) (h1 : 0 ≤ x1 ∧ x1 ≤ 255) :
    Calls Tryd.prog 26 #[.pointer (some ⟨g, 0, none⟩), .int .i64 2] w fun e w' => e = .returned (.int .i64 (x0 + x1 * 256)) ∧ St w0 w' o s g c0 c1 c2 (restA A cap 2) xs (cap - 2) := by
  obtain ⟨ad, rfl⟩ := h.rd.ad
  refine (number_2 h.rd h0.1 h0.2 h1.1 h1.2 (Kd.C_below h.byt h.bel) (h.block_ne (by simp))).mono ?_
  rintro e w' ⟨rfl, rfl⟩
  exact ⟨rfl, h.rest 2 (by simp)⟩
/-- string(..) of the bytes that were taken -/
theorem St.text {w0 w : World} {o s g : Nat} {c0 c1 c2 : Value} {A' A : Option Addr} {xs ys : List Int} {cap cap' n : Nat} (h : St w0 w o s g c0 c1 c2 A' ys cap') (hb : Kd.C (Kd.int .u8) w0 A xs.length xs) (hn : n ≤ xs.length) :
    (convert 28 9 (.slice A n cap)).run Tryd.prog w = .ok (.string (strOfNums (xs.take n))) w := by
  have := Kd.C_string (P := Tryd.prog) (A := A) (c := cap) Tryd.underlying28 Tryd.underlying5 Tryd.underlying9 (Kd.C_below (Kd.C_take hb hn) h.bel)
  rwa [List.length_take, Nat.min_eq_left hn] at this

def byteB (x : Int) : Bool := decide (0 ≤ x) && decide (x ≤ 255)
def readL : List Int → Option (Int × ByteArray × ByteArray)
  | k :: n :: r => if n.toNat ≤ r.length then (match r.drop n.toNat with
      | a :: b :: r3 => if (a + b * 256).toNat ≤ r3.length then some (k, strOfNums (r.take n.toNat), strOfNums (r3.take (a + b * 256).toNat)) else none
      | _ => none) else none
  | _ => none
def readR : Option (Int × ByteArray × ByteArray) → Int × ByteArray × ByteArray × Bool
  | some (k, n, t) => (k, n, t, true)
  | none => (0, ⟨#[]⟩, ⟨#[]⟩, false)
def proto_read.f (l0 : List Int) : Option (Int × ByteArray × ByteArray × Bool) := if l0.all byteB then some (readR (readL l0)) else none

/-- how proto.read ends behind a panic that its deferred function has caught -/
def FailEnd (w : World) (e : Ending) (w' : World) : Prop := e = .returned (.tuple #[.agg #[.int .i64 0, .string ⟨#[]⟩, .string ⟨#[]⟩], .bool false]) ∧ Below w.heap.size w w'

theorem results_read (T : Array Value) (o s : Nat) (h2 : T[2]?.getD undef = .pointer (some ⟨o, 0, none⟩)) (h3 : T[3]?.getD undef = .pointer (some ⟨s, 0, none⟩)) (W : World) (c0 c1 c2 c3 : Value)
    (ho : W.heap[o]? = some (.cells #[c0, c1, c2] 30 (0, 0))) (hs : W.heap[s]? = some (.cells #[c3] 4 (0, 0))) :
    (results Tryd.f22 T).run Tryd.prog W = .ok (.tuple #[.agg #[c0, c1, c2], c3]) W := by
  have hu30 := Tryd.underlying30
  have g0 := blk_cell ho 0
  have g1 := blk_cell ho 1
  have g2 := blk_cell ho 2
  have g3 := blk_cell hs 0
  simp [results, Tryd.results22, go_sem, h2, h3, hu30, g0, g1, g2, g3]

theorem door_fail (w W : World) (T : Array Value) (o s : Nat) (h2 : T[2]?.getD undef = .pointer (some ⟨o, 0, none⟩)) (h3 : T[3]?.getD undef = .pointer (some ⟨s, 0, none⟩)) (c0 c1 c2 c3 : Value)
    (ho : W.heap[o]? = some (.cells #[c0, c1, c2] 30 (0, 0))) (hs : W.heap[s]? = some (.cells #[c3] 4 (0, 0))) (hne : s ≠ o) (hb : Below w.heap.size w W) (hg : w.heap.size ≤ o ∧ w.heap.size ≤ s) :
    bodyPostD Tryd.prog Tryd.f22 (FailEnd w) (Exit.panic shortP) { tmps := T, defers := [{ target := Target.fn (Fn.func 25) #[.pointer (some ⟨o, 0, none⟩), .pointer (some ⟨s, 0, none⟩)], args := #[] }] } W := by
  refine leaves_cons (f := 25) (args := #[.pointer (some ⟨o, 0, none⟩), .pointer (some ⟨s, 0, none⟩)]) (by simp) (by simp [go_sem]) ?_
  refine (catch_short o s hne W c0 c1 c2 c3 ho hs).mono ?_
  rintro e u' w'' ⟨rfl, rfl, rfl⟩
  have f1 := blk_alloc ho (.cells #[] 57)
  have f2 := blk_alloc hs (.cells #[] 57)
  have k1 : (caughtW W o s).heap[o]? = some (.cells #[.int .i64 0, .string ⟨#[]⟩, .string ⟨#[]⟩] 30 (0, 0)) := blk_far (blk_put (blk_put (blk_put f1 0 _ rfl) 1 _ rfl) 2 _ rfl) hne.symm _
  have k2 : (caughtW W o s).heap[s]? = some (.cells #[.bool false] 4 (0, 0)) := blk_put (blk_far (blk_far (blk_far f2 hne _) hne _) hne _) 0 _ rfl
  refine ⟨_, results_read T o s h2 h3 _ _ _ _ _ k1 k2, rfl, ?_⟩
  exact ((((hb.alloc hb.size _).setCell hg.1 _).setCell hg.1 _).setCell hg.1 _).setCell hg.2 _

/-- how proto.read ends where all could be read -/
def OkEnd (w : World) (k : Int) (n t : ByteArray) (e : Ending) (w' : World) : Prop := e = .returned (.tuple #[.agg #[.int .i64 k, .string n, .string t], .bool true]) ∧ Below w.heap.size w w'
theorem door_ok (w W : World) (T : Array Value) (o s : Nat) (h2 : T[2]?.getD undef = .pointer (some ⟨o, 0, none⟩)) (h3 : T[3]?.getD undef = .pointer (some ⟨s, 0, none⟩)) (k : Int) (n t : ByteArray)
    (ho : W.heap[o]? = some (.cells #[.int .i64 k, .string n, .string t] 30 (0, 0))) (hs : W.heap[s]? = some (.cells #[.bool true] 4 (0, 0))) (hb : Below w.heap.size w W) :
    bodyPostD Tryd.prog Tryd.f22 (OkEnd w k n t) Exit.ret { tmps := T, defers := [{ target := Target.fn (Fn.func 25) #[.pointer (some ⟨o, 0, none⟩), .pointer (some ⟨s, 0, none⟩)], args := #[] }] } W := by
  refine leaves_cons (f := 25) (args := #[.pointer (some ⟨o, 0, none⟩), .pointer (some ⟨s, 0, none⟩)]) (by simp) (by simp [go_sem]) ?_
  refine (catch_idle o s W).mono ?_
  rintro e u' w'' ⟨rfl, rfl, rfl⟩
  refine ⟨_, results_read T o s h2 h3 _ _ _ _ _ (blk_alloc ho _) (blk_alloc hs _), rfl, ?_⟩
  exact hb.alloc hb.size _

/-- the world in which proto.read begins to read -/
theorem start_St (w : World) (A : Option Addr) (xs : List Int) (cap : Nat) (hle : xs.length ≤ cap) (hA : ∃ ad, A = some ad) (hc : Kd.C (Kd.int .u8) w A xs.length xs) :
    St w (((w.alloc (.cells #[.int .i64 0, .string ⟨#[]⟩, .string ⟨#[]⟩] 30)).alloc (.cells #[.bool false] 4)).alloc (.cells #[.slice A xs.length cap] 61)) w.heap.size (w.heap.size + 1) (w.heap.size + 1 + 1) (.int .i64 0) (.string ⟨#[]⟩) (.string ⟨#[]⟩) A xs cap := by
  refine ⟨blk_alloc (blk_alloc (heap_alloc_new w _) _) _, ?_, ⟨?_, hle, hA⟩, ((Below.refl _ w).alloc (Nat.le_refl _) _ |>.alloc (by simp) _).alloc (by simp; omega) _, by omega, by omega, hc⟩
  · have := heap_alloc_new (w.alloc (.cells #[.int .i64 0, .string ⟨#[]⟩, .string ⟨#[]⟩] 30)) (.cells #[.bool false] 4)
    exact blk_alloc (by simpa using this) _
  · have := heap_alloc_new ((w.alloc (.cells #[.int .i64 0, .string ⟨#[]⟩, .string ⟨#[]⟩] 30)).alloc (.cells #[.bool false] 4)) (.cells #[.slice A xs.length cap] 61)
    simpa using this

set_option maxHeartbeats 800000 in
theorem read_0 (A0 : Option Addr) (c0 : Nat) (w : World) : Calls Tryd.prog 22 #[.slice A0 0 c0] w (FailEnd w) := by
  have hmf : ∀ (fn : Fn) (first cap : Array Value) (w : World), (Instr.makeFunc fn first cap).run Tryd.prog w = .ok (.func fn first cap) w := fun _ _ _ _ => rfl
  have hb := Aside0.mk (heap_alloc_new ((w.alloc (.cells #[.int .i64 0, .string ⟨#[]⟩, .string ⟨#[]⟩] 30)).alloc (.cells #[.bool false] 4)) (.cells #[.slice A0 0 c0] 61))
  have ho := Aside0.mk (blk_alloc (blk_alloc (heap_alloc_new w (.cells #[.int .i64 0, .string ⟨#[]⟩, .string ⟨#[]⟩] 30)) (.cells #[.bool false] 4)) (.cells #[.slice A0 0 c0] 61))
  have hs := Aside0.mk (blk_alloc (heap_alloc_new (w.alloc (.cells #[.int .i64 0, .string ⟨#[]⟩, .string ⟨#[]⟩] 30)) (.cells #[.bool false] 4)) (.cells #[.slice A0 0 c0] 61))
  have hu30 := Tryd.underlying30
  go_enter_defers Tryd.func22, Tryd.ntmps22
  go_wp2_with fail
  refine (number_short (w.heap.size + 1 + 1) A0 0 c0 1 _ (by simpa using hb.out) (by decide)).mono ?_
  rintro e w' ⟨rfl, rfl⟩
  refine door_fail w _ _ w.heap.size (w.heap.size + 1) rfl rfl _ _ _ _ ho.out (by simpa using hs.out) (by omega) (((Below.refl _ w).alloc (Nat.le_refl _) _ |>.alloc (by simp) _).alloc (by simp; omega) _) ⟨by omega, by omega⟩

set_option maxHeartbeats 1600000 in
theorem read_1 (A : Option Addr) (cap : Nat) (w : World) (k : Int) (hk : 0 ≤ k ∧ k ≤ 255) (hle : ([k]).length ≤ cap) (hA : ∃ ad, A = some ad) (hc : Kd.C (Kd.int .u8) w A ([k]).length ([k])) :
    Calls Tryd.prog 22 #[.slice A ([k]).length cap] w (FailEnd w) := by
  simp only [List.length_cons, List.length_nil]
  have hmf : ∀ (fn : Fn) (first cap : Array Value) (w : World), (Instr.makeFunc fn first cap).run Tryd.prog w = .ok (.func fn first cap) w := fun _ _ _ _ => rfl
  have hu30 := Tryd.underlying30
  have hS0 := Aside0.mk (start_St w A ([k]) cap hle hA hc)
  have hB0 := Aside0.mk hc
  clear hc hA
  simp only [List.length_cons, List.length_nil] at hS0
  go_enter_defers Tryd.func22, Tryd.ntmps22
  go_wp2_with fail
  refine (hS0.out.number1 hk).mono ?_
  rintro e w1 ⟨rfl, hq⟩
  have hS1 := Aside0.mk hq
  clear hq
  have hc_ := blk_cell hS1.out.out 0
  have hf_ := blk_frozen hS1.out.out 0
  go_wp2_with fail
  clear hc_ hf_
  have hS2 := Aside0.mk (hS1.out.put0 (.int .i64 k))
  refine (number_short (w.heap.size + 1 + 1) _ _ _ 1 _ hS2.out.rd.blk (by decide)).mono ?_
  rintro e wz ⟨rfl, rfl⟩
  refine door_fail w _ _ (w.heap.size) (w.heap.size + 1) rfl rfl _ _ _ _ hS2.out.out hS2.out.is (by omega) hS2.out.bel ⟨by omega, by omega⟩

set_option maxHeartbeats 1600000 in
theorem read_2 (A : Option Addr) (cap : Nat) (w : World) (k : Int) (hk : 0 ≤ k ∧ k ≤ 255) (n : Nat) (hn : 0 ≤ (n : Int) ∧ (n : Int) ≤ 255) (r : List Int) (hr : r.length < n) (hle : (k :: (n : Int) :: r).length ≤ cap) (hA : ∃ ad, A = some ad) (hc : Kd.C (Kd.int .u8) w A (k :: (n : Int) :: r).length (k :: (n : Int) :: r)) :
    Calls Tryd.prog 22 #[.slice A (k :: (n : Int) :: r).length cap] w (FailEnd w) := by
  simp only [List.length_cons, List.length_nil]
  have hmf : ∀ (fn : Fn) (first cap : Array Value) (w : World), (Instr.makeFunc fn first cap).run Tryd.prog w = .ok (.func fn first cap) w := fun _ _ _ _ => rfl
  have hu30 := Tryd.underlying30
  have hS0 := Aside0.mk (start_St w A (k :: (n : Int) :: r) cap hle hA hc)
  have hB0 := Aside0.mk hc
  clear hc hA
  simp only [List.length_cons, List.length_nil] at hS0
  go_enter_defers Tryd.func22, Tryd.ntmps22
  go_wp2_with fail
  refine (hS0.out.number1 hk).mono ?_
  rintro e w1 ⟨rfl, hq⟩
  have hS1 := Aside0.mk hq
  clear hq
  have hc_ := blk_cell hS1.out.out 0
  have hf_ := blk_frozen hS1.out.out 0
  go_wp2_with fail
  clear hc_ hf_
  have hS2 := Aside0.mk (hS1.out.put0 (.int .i64 k))
  refine (hS2.out.number1 hn).mono ?_
  rintro e w2 ⟨rfl, hq⟩
  have hS3 := Aside0.mk hq
  clear hq
  go_wp2_with fail
  refine (take_short (w.heap.size + 1 + 1) _ _ _ (n : Int) _ hS3.out.rd.blk (by omega)).mono ?_
  rintro e wz ⟨rfl, rfl⟩
  refine door_fail w _ _ (w.heap.size) (w.heap.size + 1) rfl rfl _ _ _ _ hS3.out.out hS3.out.is (by omega) hS3.out.bel ⟨by omega, by omega⟩

set_option maxHeartbeats 1600000 in
theorem read_3 (A : Option Addr) (cap : Nat) (w : World) (k : Int) (hk : 0 ≤ k ∧ k ≤ 255) (n : Nat) (hn : 0 ≤ (n : Int) ∧ (n : Int) ≤ 255) (r : List Int) (hr : n ≤ r.length) (r2 : List Int) (hd : r.drop n = r2) (h2 : r2.length < 2) (hle : (k :: (n : Int) :: r).length ≤ cap) (hA : ∃ ad, A = some ad) (hc : Kd.C (Kd.int .u8) w A (k :: (n : Int) :: r).length (k :: (n : Int) :: r)) :
    Calls Tryd.prog 22 #[.slice A (k :: (n : Int) :: r).length cap] w (FailEnd w) := by
  simp only [List.length_cons, List.length_nil]
  have hmf : ∀ (fn : Fn) (first cap : Array Value) (w : World), (Instr.makeFunc fn first cap).run Tryd.prog w = .ok (.func fn first cap) w := fun _ _ _ _ => rfl
  have hu30 := Tryd.underlying30
  have hS0 := Aside0.mk (start_St w A (k :: (n : Int) :: r) cap hle hA hc)
  have hB0 := Aside0.mk hc
  clear hc hA
  simp only [List.length_cons, List.length_nil] at hS0
  go_enter_defers Tryd.func22, Tryd.ntmps22
  go_wp2_with fail
  refine (hS0.out.number1 hk).mono ?_
  rintro e w1 ⟨rfl, hq⟩
  have hS1 := Aside0.mk hq
  clear hq
  have hc_ := blk_cell hS1.out.out 0
  have hf_ := blk_frozen hS1.out.out 0
  go_wp2_with fail
  clear hc_ hf_
  have hS2 := Aside0.mk (hS1.out.put0 (.int .i64 k))
  refine (hS2.out.number1 hn).mono ?_
  rintro e w2 ⟨rfl, hq⟩
  have hS3 := Aside0.mk hq
  clear hq
  go_wp2_with fail
  refine (hS3.out.take n hr).mono ?_
  rintro e w3 ⟨rfl, hq⟩
  have hS4 := Aside0.mk hq
  have hcv_ := hS4.out.text (cap := cap - 1 - 1) hS3.out.byt hr
  clear hq
  have hc_ := blk_cell hS4.out.out 1
  have hf_ := blk_frozen hS4.out.out 1
  go_wp2_with fail
  clear hc_ hf_ hcv_
  have hS5 := Aside0.mk (hS4.out.put1 (.string (strOfNums (r.take n))))
  rw [hd] at hS5
  refine (number_short (w.heap.size + 1 + 1) _ _ _ 2 _ hS5.out.rd.blk (by omega)).mono ?_
  rintro e wz ⟨rfl, rfl⟩
  refine door_fail w _ _ (w.heap.size) (w.heap.size + 1) rfl rfl _ _ _ _ hS5.out.out hS5.out.is (by omega) hS5.out.bel ⟨by omega, by omega⟩

set_option maxHeartbeats 1600000 in
theorem read_4 (A : Option Addr) (cap : Nat) (w : World) (k : Int) (hk : 0 ≤ k ∧ k ≤ 255) (n : Nat) (hn : 0 ≤ (n : Int) ∧ (n : Int) ≤ 255) (r : List Int) (hr : n ≤ r.length) (a b : Int) (r3 : List Int) (hd : r.drop n = a :: b :: r3) (ha : 0 ≤ a ∧ a ≤ 255) (hb : 0 ≤ b ∧ b ≤ 255) (m : Nat) (hm : a + b * 256 = (m : Int)) (hr3 : r3.length < m) (hle : (k :: (n : Int) :: r).length ≤ cap) (hA : ∃ ad, A = some ad) (hc : Kd.C (Kd.int .u8) w A (k :: (n : Int) :: r).length (k :: (n : Int) :: r)) :
    Calls Tryd.prog 22 #[.slice A (k :: (n : Int) :: r).length cap] w (FailEnd w) := by
  simp only [List.length_cons, List.length_nil]
  have hmf : ∀ (fn : Fn) (first cap : Array Value) (w : World), (Instr.makeFunc fn first cap).run Tryd.prog w = .ok (.func fn first cap) w := fun _ _ _ _ => rfl
  have hu30 := Tryd.underlying30
  have hS0 := Aside0.mk (start_St w A (k :: (n : Int) :: r) cap hle hA hc)
  have hB0 := Aside0.mk hc
  clear hc hA
  simp only [List.length_cons, List.length_nil] at hS0
  go_enter_defers Tryd.func22, Tryd.ntmps22
  go_wp2_with fail
  refine (hS0.out.number1 hk).mono ?_
  rintro e w1 ⟨rfl, hq⟩
  have hS1 := Aside0.mk hq
  clear hq
  have hc_ := blk_cell hS1.out.out 0
  have hf_ := blk_frozen hS1.out.out 0
  go_wp2_with fail
  clear hc_ hf_
  have hS2 := Aside0.mk (hS1.out.put0 (.int .i64 k))
  refine (hS2.out.number1 hn).mono ?_
  rintro e w2 ⟨rfl, hq⟩
  have hS3 := Aside0.mk hq
  clear hq
  go_wp2_with fail
  refine (hS3.out.take n hr).mono ?_
  rintro e w3 ⟨rfl, hq⟩
  have hS4 := Aside0.mk hq
  have hcv_ := hS4.out.text (cap := cap - 1 - 1) hS3.out.byt hr
  clear hq
  have hc_ := blk_cell hS4.out.out 1
  have hf_ := blk_frozen hS4.out.out 1
  go_wp2_with fail
  clear hc_ hf_ hcv_
  have hS5 := Aside0.mk (hS4.out.put1 (.string (strOfNums (r.take n))))
  rw [hd] at hS5
  refine (hS5.out.number2 ha hb).mono ?_
  rw [hm]
  rintro e w4 ⟨rfl, hq⟩
  have hS6 := Aside0.mk hq
  clear hq
  go_wp2_with fail
  refine (take_short (w.heap.size + 1 + 1) _ _ _ (m : Int) _ hS6.out.rd.blk (by omega)).mono ?_
  rintro e wz ⟨rfl, rfl⟩
  refine door_fail w _ _ (w.heap.size) (w.heap.size + 1) rfl rfl _ _ _ _ hS6.out.out hS6.out.is (by omega) hS6.out.bel ⟨by omega, by omega⟩

set_option maxHeartbeats 1600000 in
theorem read_5 (A : Option Addr) (cap : Nat) (w : World) (k : Int) (hk : 0 ≤ k ∧ k ≤ 255) (n : Nat) (hn : 0 ≤ (n : Int) ∧ (n : Int) ≤ 255) (r : List Int) (hr : n ≤ r.length) (a b : Int) (r3 : List Int) (hd : r.drop n = a :: b :: r3) (ha : 0 ≤ a ∧ a ≤ 255) (hb : 0 ≤ b ∧ b ≤ 255) (m : Nat) (hm : a + b * 256 = (m : Int)) (hr3 : m ≤ r3.length) (hle : (k :: (n : Int) :: r).length ≤ cap) (hA : ∃ ad, A = some ad) (hc : Kd.C (Kd.int .u8) w A (k :: (n : Int) :: r).length (k :: (n : Int) :: r)) :
    Calls Tryd.prog 22 #[.slice A (k :: (n : Int) :: r).length cap] w (OkEnd w k (strOfNums (r.take n)) (strOfNums (r3.take m))) := by
  simp only [List.length_cons, List.length_nil]
  have hmf : ∀ (fn : Fn) (first cap : Array Value) (w : World), (Instr.makeFunc fn first cap).run Tryd.prog w = .ok (.func fn first cap) w := fun _ _ _ _ => rfl
  have hu30 := Tryd.underlying30
  have hS0 := Aside0.mk (start_St w A (k :: (n : Int) :: r) cap hle hA hc)
  have hB0 := Aside0.mk hc
  clear hc hA
  simp only [List.length_cons, List.length_nil] at hS0
  go_enter_defers Tryd.func22, Tryd.ntmps22
  go_wp2_with fail
  refine (hS0.out.number1 hk).mono ?_
  rintro e w1 ⟨rfl, hq⟩
  have hS1 := Aside0.mk hq
  clear hq
  have hc_ := blk_cell hS1.out.out 0
  have hf_ := blk_frozen hS1.out.out 0
  go_wp2_with fail
  clear hc_ hf_
  have hS2 := Aside0.mk (hS1.out.put0 (.int .i64 k))
  refine (hS2.out.number1 hn).mono ?_
  rintro e w2 ⟨rfl, hq⟩
  have hS3 := Aside0.mk hq
  clear hq
  go_wp2_with fail
  refine (hS3.out.take n hr).mono ?_
  rintro e w3 ⟨rfl, hq⟩
  have hS4 := Aside0.mk hq
  have hcv_ := hS4.out.text (cap := cap - 1 - 1) hS3.out.byt hr
  clear hq
  have hc_ := blk_cell hS4.out.out 1
  have hf_ := blk_frozen hS4.out.out 1
  go_wp2_with fail
  clear hc_ hf_ hcv_
  have hS5 := Aside0.mk (hS4.out.put1 (.string (strOfNums (r.take n))))
  rw [hd] at hS5
  refine (hS5.out.number2 ha hb).mono ?_
  rw [hm]
  rintro e w4 ⟨rfl, hq⟩
  have hS6 := Aside0.mk hq
  clear hq
  go_wp2_with fail
  refine (hS6.out.take m hr3).mono ?_
  rintro e w5 ⟨rfl, hq⟩
  have hS7 := Aside0.mk hq
  have hcv_ := hS7.out.text (cap := cap - 1 - 1 - n - 2) hS6.out.byt hr3
  clear hq
  have hS8 := Aside0.mk (hS7.out.put2 (.string (strOfNums (r3.take m))))
  have hc_ := blk_cell hS7.out.out 2
  have hf_ := blk_frozen hS7.out.out 2
  have x0_ := blk_cell hS8.out.out 0
  have x1_ := blk_cell hS8.out.out 1
  have x2_ := blk_cell hS8.out.out 2
  have y0_ := blk_frozen hS8.out.out 0
  have y1_ := blk_frozen hS8.out.out 1
  have y2_ := blk_frozen hS8.out.out 2
  have k3_ := Aside0.mk (((hS8.out.put0 (.int .i64 k)).put1 (.string (strOfNums (r.take n)))).put2 (.string (strOfNums (r3.take m))))
  have k1_ := blk_cell (hS8.out.put0 (.int .i64 k)).out 1
  have k2_ := blk_frozen (hS8.out.put0 (.int .i64 k)).out 1
  have k4_ := blk_cell ((hS8.out.put0 (.int .i64 k)).put1 (.string (strOfNums (r.take n)))).out 2
  have k5_ := blk_frozen ((hS8.out.put0 (.int .i64 k)).put1 (.string (strOfNums (r.take n)))).out 2
  have z0_ := blk_cell k3_.out.is 0
  have z1_ := blk_frozen k3_.out.is 0
  go_wp2
  refine door_ok w _ _ (w.heap.size) (w.heap.size + 1) rfl rfl k _ _ ?_ ?_ ?_
  · exact blk_far k3_.out.out (by simp) _
  · exact blk_put k3_.out.is 0 _ rfl
  · exact k3_.out.bel.setCell (by simp) _

theorem some_of {w : World} {A : Option Addr} {x : Int} {xs : List Int} (h : Kd.C (Kd.int .u8) w A (x :: xs).length (x :: xs)) : ∃ ad, A = some ad := by
  obtain ⟨ad', c, he, hl, hK, hc⟩ := Kd.C_get h 0 (0 : Int) (by omega) (by simp only [List.length_cons]; omega)
  exact ⟨ad', he⟩
theorem byteB_iff {x : Int} (h : byteB x = true) : 0 ≤ x ∧ x ≤ 255 := by
  simpa [byteB] using h

theorem proto_read.calls (A0 : Option Addr) (c0 : Nat) (l0 : List Int) (r1 : Int) (r2 r3 : ByteArray) (r4 : Bool) (w : World) (hr0 : Kd.C (Kd.int .u8) w A0 l0.length l0) (hc0 : l0.length ≤ c0) (h : proto_read.f l0 = some (r1, r2, r3, r4)) :
    Calls Tryd.prog 22 #[.slice A0 l0.length c0] w fun e w' => e = .returned (.tuple #[.agg #[.int .i64 r1, .string r2, .string r3], .bool r4]) ∧ Below w.heap.size w w' := by
  have fail : readL l0 = none → Calls Tryd.prog 22 #[.slice A0 l0.length c0] w (FailEnd w) → Calls Tryd.prog 22 #[.slice A0 l0.length c0] w fun e w' => e = .returned (.tuple #[.agg #[.int .i64 r1, .string r2, .string r3], .bool r4]) ∧ Below w.heap.size w w' := by
    intro hx' hC
    unfold proto_read.f at h
    rw [hx'] at h
    split at h
    · simp only [readR, Option.some.injEq, Prod.mk.injEq] at h
      obtain ⟨rfl, rfl, rfl, rfl⟩ := h
      exact hC
    · cases h
  have hall : l0.all byteB = true := by
    unfold proto_read.f at h
    split at h
    · assumption
    · cases h
  match l0, hr0, hc0, hall, h, fail with
  | [], hr0, hc0, hall, h, fail => exact fail rfl (read_0 A0 c0 w)
  | [k], hr0, hc0, hall, h, fail =>
    simp only [List.all_cons, List.all_nil, Bool.and_true] at hall
    exact fail rfl (read_1 A0 c0 w k (byteB_iff hall) hc0 (some_of hr0) hr0)
  | k :: n :: r, hr0, hc0, hall, h, fail =>
    simp only [List.all_cons, Bool.and_eq_true] at hall
    obtain ⟨hk, hn, hr⟩ := hall
    have hk := byteB_iff hk
    have hn := byteB_iff hn
    obtain ⟨n, rfl⟩ := Int.eq_ofNat_of_zero_le hn.1
    have hA := some_of hr0
    by_cases hnr : n ≤ r.length
    · have hrd : ∀ x ∈ r.drop n, 0 ≤ x ∧ x ≤ 255 := fun x hx => byteB_iff (List.all_eq_true.mp hr x (List.mem_of_mem_drop hx))
      match hd : r.drop n, hrd with
      | [], _ => exact fail (by simp [readL, hnr, hd]) (read_3 A0 c0 w k hk n hn r hnr [] hd (by decide) hc0 hA hr0)
      | [a], _ => exact fail (by simp [readL, hnr, hd]) (read_3 A0 c0 w k hk n hn r hnr [a] hd (by simp) hc0 hA hr0)
      | a :: b :: r3, hrd =>
        have ha := hrd a (by simp)
        have hb := hrd b (by simp)
        obtain ⟨m, hm⟩ := Int.eq_ofNat_of_zero_le (show 0 ≤ a + b * 256 by omega)
        by_cases hm3 : m ≤ r3.length
        · have hC := read_5 A0 c0 w k hk n hn r hnr a b r3 hd ha hb m hm hm3 hc0 hA hr0
          have hx : readL (k :: (n : Int) :: r) = some (k, strOfNums (r.take n), strOfNums (r3.take m)) := by
            simp [readL, hnr, hd, hm, hm3]
          unfold proto_read.f at h
          rw [hx] at h
          split at h
          · simp only [readR, Option.some.injEq, Prod.mk.injEq] at h
            obtain ⟨rfl, rfl, rfl, rfl⟩ := h
            exact hC
          · cases h
        · exact fail (by simp [readL, hnr, hd, hm, hm3]) (read_4 A0 c0 w k hk n hn r hnr a b r3 hd ha hb m hm (by omega) hc0 hA hr0)
    · exact fail (by simp [readL, hnr]) (read_2 A0 c0 w k hk n hn r (by omega) hc0 hA hr0)
end Go.Proofs.YtpnnojigdhkjaaaDoor.Q
