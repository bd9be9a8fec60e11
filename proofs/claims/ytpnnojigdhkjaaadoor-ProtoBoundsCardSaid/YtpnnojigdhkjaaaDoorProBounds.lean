/- ProtoBounds, walked by hand: the switch's ways, and what follows once. -/
import Derived.Test.YtpnnojigdhkjaaaDoorProSeal
import Derived.Test.YtpnnojigdhkjaaaDoorHeap
import Derived.Test.YtpnnojigdhkjaaaDoorQ5
import Derived.Test.YtpnnojigdhkjaaaDoorQ6
import Derived.Test.YtpnnojigdhkjaaaDoorQ3
import Derived.Deep.QuietTactic
import Derived.BigQuiet
import Derived.Deep.DeepCutAuto
import Derived.OwnWalk
namespace Go.Proofs.YtpnnojigdhkjaaaDoor.Q
open Go.RowKit Go.Proofs.YtpnnojigdhkjaaaDoorW.PrintWords Go.Proofs.YtpnnojigdhkjaaaDoorW.PrintLast Go.Proofs.YtpnnojigdhkjaaaDoorW.PrintMore Go.Proofs.YtpnnojigdhkjaaaDoor.Lx
set_option linter.unusedVariables false
set_option linter.unusedSimpArgs false

def bKinds : List Int := [0, 8, 255]
def bNames : List (List UInt8) := [[], [118, 97, 114], [57, 97], [65], [97, 98, 99, 100, 101, 102, 103, 104, 105, 106, 107, 108, 109]]
theorem bK (c : Nat) (h : c < 3) : (#[.int .i64 0, .int .i64 8, .int .i64 255] : Array Value)[c]? = some (.int .i64 (bKinds.getD c 0)) := by
  obtain h | h | h : c = 0 ∨ c = 1 ∨ c = 2 := by omega
  all_goals (subst h; rfl)
theorem bN (c : Nat) (h : c < 5) : (#[.string ⟨#[]⟩, .string ⟨#[118, 97, 114]⟩, .string ⟨#[57, 97]⟩, .string ⟨#[65]⟩, .string ⟨#[97, 98, 99, 100, 101, 102, 103, 104, 105, 106, 107, 108, 109]⟩] : Array Value)[c]? = some (.string ⟨(bNames.getD c []).toArray⟩) := by
  obtain h | h | h | h | h : c = 0 ∨ c = 1 ∨ c = 2 ∨ c = 3 ∨ c = 4 := by omega
  all_goals (subst h; rfl)
set_option maxRecDepth 20000 in
set_option maxHeartbeats 1600000 in
theorem bounds_row (a0 a1 a2 : Int) (kn : Nat) (hkn : deadboltlaw15_known.f kn = some true) (km : Nat) (k : Int) (n t : ByteArray) (hmk : deadboltlaw15_Make.f km a0 a2 ⟨#[120]⟩ = some (k, n, t))
    (kb : Nat) (bs : List Int) (hbs : deadboltref15_Bytes.f kb k n t = some bs) (h8 : 8 ≤ bs.length)
    (j : Int) (hj : j = 0 ∨ j = 1 ∨ j = 2 ∨ j = 3 ∨ j = 4 ∨ j = 5) (hwj : deadboltlaw15_within.f a1 6 = some j) (c3 c5 c6 : Nat) (h3 : c3 < 3) (h5 : c5 < 5) (h6 : c6 < 6)
    (hw3 : deadboltlaw15_within.f a2 3 = some (c3 : Int)) (hw5 : deadboltlaw15_within.f a2 5 = some (c5 : Int)) (hw6 : deadboltlaw15_within.f a2 6 = some (c6 : Int))
    (k' : Int) (n' t' : ByteArray) (hk' : k' = if j = 0 then bKinds.getD c3 0 else k) (hn' : n' = if j = 1 then ⟨(bNames.getD c5 []).toArray⟩ else if j = 2 then ⟨#[113]⟩ else n)
    (ht' : t' = if j = 3 then strOfNums (List.replicate (1998 + c6) 0) else if j = 4 then ⟨#[121]⟩ else t)
    (kb' : Nat) (bs' : List Int) (hbs' : deadboltref15_Bytes.f kb' k' n' t' = some bs') (kp : Nat) (pk : Int) (pn pt : ByteArray) (pe : Int) (hp : proto_Parse.f kp bs' = some (pk, pn, pt, pe))
    (ky : Nat) (is : Bool) (hmay : deadboltref15_May.f ky k' n' t' = some is)
    (hfin : is = true ∧ pe = 0 ∧ pk = k' ∧ pn = n' ∧ pt = t' ∨ is = false ∧ pe = 12 ∧ pk = 0 ∧ pn = ⟨#[]⟩ ∧ pt = ⟨#[]⟩) (w : World) (hG : GL w) :
    Calls Tryd.prog 5 #[.int .i64 a0, .int .i64 a1, .int .i64 a2] w fun e w' => e = .returned (.bool true) ∧ Below w.heap.size w w' := by
  have HG := Aside0.mk hG
  have HK := Aside0.mk hkn
  have HM := Aside0.mk hmk
  have HB1 := Aside0.mk hbs
  have HJ := Aside0.mk hwj
  have H3 := Aside0.mk hw3
  have H5 := Aside0.mk hw5
  have H6 := Aside0.mk hw6
  have HB2 := Aside0.mk hbs'
  have HP := Aside0.mk hp
  have HY := Aside0.mk hmay
  have EK := Aside0.mk hk'
  have EN := Aside0.mk hn'
  have ET := Aside0.mk ht'
  have HF := Aside0.mk hfin
  have q8 : decide ((bs.length : Int) < 8) = false := decide_eq_false (by omega)
  clear hG hkn hmk hbs hwj hw3 hw5 hw6 hbs' hp hmay hk' hn' ht' hfin h8
  go_enter Tryd.func5, Tryd.ntmps5
  go_wp2_with fail
  refine (deadboltlaw15_known.calls kn true _ HK.out HG.out).mono ?_
  rintro e w1 ⟨rfl, hb1⟩
  go_wp2_with fail
  refine (deadboltlaw15_Make.calls km a0 a2 ⟨#[120]⟩ k n t _ HM.out).mono ?_
  rintro e w2 ⟨rfl, hb2⟩
  have hX2 := below_step hb1 hb2
  go_wp2_with fail
  have hX3 := below_alloc hX2 (.cells #[.int .i64 k, .string n, .string t] 25)
  have hgk := blk_new w2 (.cells #[.int .i64 k, .string n, .string t] 25)
  have hge : w.heap.size ≤ w2.heap.size := below_size hX2
  generalize w2.alloc (.cells #[.int .i64 k, .string n, .string t] 25) = X at hX3 hgk ⊢
  generalize w2.heap.size = g at hge hgk ⊢
  refine (deadboltref15_Bytes.calls kb k n t bs _ HB1.out).mono ?_
  rintro e w3 ⟨v0, rfl, hv, hb3⟩
  obtain ⟨A3, c3', rfl, hc3, hC3⟩ := Kd.R_reads hv
  have hX4 := below_step hX3 hb3
  have hg3 := blk_below hgk hb3
  go_wp2_with fail
  refine (deadboltlaw15_within.calls a1 6 j _ HJ.out).mono ?_
  rintro e w4 ⟨rfl, hd⟩
  obtain ⟨nd, rfl⟩ := hd
  go_upto_block 0 with fail
  go_cut [7] (fun v7 wc => v7 = .pointer (some ⟨g, 0, none⟩) ∧ Aside0 (wc.heap[g]? = some (.cells #[.int .i64 k', .string n', .string t'] 25 (0, 0))) ∧ Aside0 (Below w.heap.size w wc))
  case first =>
    rcases hj with rfl | rfl | rfl | rfl | rfl | rfl
    · -- a kind
      have EK' := Aside0.mk (EK.out.trans (if_pos rfl))
      obtain rfl : n' = n := EN.out.trans (by rw [if_neg (by decide), if_neg (by decide)])
      obtain rfl : t' = t := ET.out.trans (by rw [if_neg (by decide), if_neg (by decide)])
      go_wp2_with fail
      have hX5 := below_alloc (pw_below_drewN hX4 nd) (.cells #[.int .i64 0, .int .i64 8, .int .i64 255] 3)
      have hg5 := blk_alloc (blk_drewN hg3 nd) (.cells #[.int .i64 0, .int .i64 8, .int .i64 255] 3)
      have hn5 : ((w3.drewN nd).alloc (.cells #[.int .i64 0, .int .i64 8, .int .i64 255] 3)).heap[w3.heap.size]? = some (.cells #[.int .i64 0, .int .i64 8, .int .i64 255] 3 (0, 0)) := blk_new (w3.drewN nd) (.cells #[.int .i64 0, .int .i64 8, .int .i64 255] 3)
      generalize (w3.drewN nd).alloc (.cells #[.int .i64 0, .int .i64 8, .int .i64 255] 3) = X5 at hX5 hg5 hn5 ⊢
      generalize w3.heap.size = g5 at hn5 ⊢
      have hl0 : X5.cell? ⟨g5, c3, none⟩ = some (.int .i64 k') := (blk_cell hn5 c3).trans ((bK c3 (by omega)).trans (by rw [EK'.out]))
      refine (deadboltlaw15_within.calls a2 3 (c3 : Int) _ H3.out).mono ?_
      rintro e w6 ⟨rfl, hd⟩
      obtain ⟨nd2, rfl⟩ := hd
      have hl : (X5.drewN nd2).cell? ⟨g5, c3, none⟩ = _ := hl0
      have hwc : (X5.drewN nd2).cell? ⟨g, 0, none⟩ = _ := blk_cell hg5 0
      have hwf : (X5.drewN nd2).frozen? ⟨g, 0, none⟩ = false := blk_frozen hg5 0
      have q0 : decide ((c3 : Int) < 3) = true := decide_eq_true (by omega)
      have q1 : decide (0 ≤ (c3 : Int)) = true := decide_eq_true (by omega)
      have q2 : (c3 : Int) < 3 := by omega
      have q3 : 0 ≤ (c3 : Int) := by omega
      clear hl0
      go_wp2_with fail
      go_meet
      exact ⟨rfl, Aside0.mk (blk_put (blk_drewN hg5 nd2) 0 _ rfl), Aside0.mk (Below.setCell (pw_below_drewN hX5 nd2) (p := ⟨g, 0, none⟩) hge _)⟩
    · -- a name
      obtain rfl : k' = k := EK.out.trans (by rw [if_neg (by decide)])
      have EN' := Aside0.mk (EN.out.trans (if_pos rfl))
      obtain rfl : t' = t := ET.out.trans (by rw [if_neg (by decide), if_neg (by decide)])
      go_wp2_with fail
      have hX5 := below_alloc (pw_below_drewN hX4 nd) (.cells #[.string ⟨#[]⟩, .string ⟨#[118, 97, 114]⟩, .string ⟨#[57, 97]⟩, .string ⟨#[65]⟩, .string ⟨#[97, 98, 99, 100, 101, 102, 103, 104, 105, 106, 107, 108, 109]⟩] 9)
      have hg5 := blk_alloc (blk_drewN hg3 nd) (.cells #[.string ⟨#[]⟩, .string ⟨#[118, 97, 114]⟩, .string ⟨#[57, 97]⟩, .string ⟨#[65]⟩, .string ⟨#[97, 98, 99, 100, 101, 102, 103, 104, 105, 106, 107, 108, 109]⟩] 9)
      have hn5 : ((w3.drewN nd).alloc (.cells #[.string ⟨#[]⟩, .string ⟨#[118, 97, 114]⟩, .string ⟨#[57, 97]⟩, .string ⟨#[65]⟩, .string ⟨#[97, 98, 99, 100, 101, 102, 103, 104, 105, 106, 107, 108, 109]⟩] 9)).heap[w3.heap.size]? = some (.cells #[.string ⟨#[]⟩, .string ⟨#[118, 97, 114]⟩, .string ⟨#[57, 97]⟩, .string ⟨#[65]⟩, .string ⟨#[97, 98, 99, 100, 101, 102, 103, 104, 105, 106, 107, 108, 109]⟩] 9 (0, 0)) := blk_new (w3.drewN nd) (.cells #[.string ⟨#[]⟩, .string ⟨#[118, 97, 114]⟩, .string ⟨#[57, 97]⟩, .string ⟨#[65]⟩, .string ⟨#[97, 98, 99, 100, 101, 102, 103, 104, 105, 106, 107, 108, 109]⟩] 9)
      generalize (w3.drewN nd).alloc (.cells #[.string ⟨#[]⟩, .string ⟨#[118, 97, 114]⟩, .string ⟨#[57, 97]⟩, .string ⟨#[65]⟩, .string ⟨#[97, 98, 99, 100, 101, 102, 103, 104, 105, 106, 107, 108, 109]⟩] 9) = X5 at hX5 hg5 hn5 ⊢
      generalize w3.heap.size = g5 at hn5 ⊢
      have hl0 : X5.cell? ⟨g5, c5, none⟩ = some (.string n') := (blk_cell hn5 c5).trans ((bN c5 (by omega)).trans (by rw [EN'.out]))
      refine (deadboltlaw15_within.calls a2 5 (c5 : Int) _ H5.out).mono ?_
      rintro e w6 ⟨rfl, hd⟩
      obtain ⟨nd2, rfl⟩ := hd
      have hl : (X5.drewN nd2).cell? ⟨g5, c5, none⟩ = _ := hl0
      have hwc : (X5.drewN nd2).cell? ⟨g, 1, none⟩ = _ := blk_cell hg5 1
      have hwf : (X5.drewN nd2).frozen? ⟨g, 1, none⟩ = false := blk_frozen hg5 1
      have q0 : decide ((c5 : Int) < 5) = true := decide_eq_true (by omega)
      have q1 : decide (0 ≤ (c5 : Int)) = true := decide_eq_true (by omega)
      have q2 : (c5 : Int) < 5 := by omega
      have q3 : 0 ≤ (c5 : Int) := by omega
      clear hl0
      go_wp2_with fail
      go_meet
      exact ⟨rfl, Aside0.mk (blk_put (blk_drewN hg5 nd2) 1 _ rfl), Aside0.mk (Below.setCell (pw_below_drewN hX5 nd2) (p := ⟨g, 1, none⟩) hge _)⟩
    · -- the name q
      obtain rfl : k' = k := EK.out.trans (by rw [if_neg (by decide)])
      obtain rfl : n' = ⟨#[113]⟩ := EN.out.trans (by rw [if_neg (by decide), if_pos rfl])
      obtain rfl : t' = t := ET.out.trans (by rw [if_neg (by decide), if_neg (by decide)])
      have hwc : (w3.drewN nd).cell? ⟨g, 1, none⟩ = _ := blk_cell hg3 1
      have hwf : (w3.drewN nd).frozen? ⟨g, 1, none⟩ = false := blk_frozen hg3 1
      go_wp2_with fail
      go_meet
      exact ⟨rfl, Aside0.mk (blk_put (blk_drewN hg3 nd) 1 _ rfl), Aside0.mk (Below.setCell (pw_below_drewN hX4 nd) (p := ⟨g, 1, none⟩) hge _)⟩
    · -- a long text
      obtain rfl : k' = k := EK.out.trans (by rw [if_neg (by decide)])
      obtain rfl : n' = n := EN.out.trans (by rw [if_neg (by decide), if_neg (by decide)])
      have ET' := Aside0.mk (ET.out.trans (if_pos rfl))
      go_wp2_with fail
      refine (deadboltlaw15_within.calls a2 6 (c6 : Int) _ H6.out).mono ?_
      rintro e w6 ⟨rfl, hd⟩
      obtain ⟨nd2, rfl⟩ := hd
      have qw : wrap64 (1998 + (c6 : Int)) = ((1998 + c6 : Nat) : Int) := by rw [w64 (by omega)]; omega
      have qv : IntKind.i64.wrap (1998 + (c6 : Int)) = ((1998 + c6 : Nat) : Int) := by rw [IntKind.wrap_i64]; omega
      have ql : 1998 + c6 < 3000 := by omega
      generalize 1998 + c6 = m6 at qw qv ql ET'
      go_wp2_with (at_make; go_loud (refine Kd.R_make (Kd.int .u8) (w0 := w) w.heap.size 5 rfl (N := 46) rfl 28 _ _ rfl (m6 : Int) ?hx ?hy Tryd.underlying28 (.int .u8 0) 1 info5 rfl (by decide) (by decide) (z0 := (0 : Int)) (ok := fun k_ => w.heap.size ≤ k_) (okp := fun _ => False) rfl (fun _ hk => hk.elim) (below_size (pw_below_drewN hX4 (nd + nd2))) (Int.natCast_nonneg _) ?q3 (pw_below_drewN hX4 (nd + nd2)) (below_size (pw_below_drewN hX4 (nd + nd2))) ?_; (case hx => first | rfl | (go_simp; done) | (go_simp; rfl) | (show Value.int .i64 _ = _; rw [qw]) | (show Value.int .i64 _ = _; rw [qv]) | skip); (case hy => first | rfl | (go_simp; done) | (go_simp; rfl) | (show Value.int .i64 _ = _; rw [qw]) | (show Value.int .i64 _ = _; rw [qv]) | skip); (case q3 => simp only [Int.toNat_natCast, Nat.mul_one]; omega); intro v7 w7 hR7 hb7 hg7 hat7; obtain ⟨A7, c7, rfl, hc7, hC7⟩ := Kd.R_reads hR7; have hcv := Kd.C_string (P := Tryd.prog) (A := A7) (c := c7) Tryd.underlying28 Tryd.underlying5 Tryd.underlying9 hC7; rw [Int.toNat_natCast, ← ET'.out, List.length_replicate] at hcv; have hg8 := blk_grown (blk_drewN hg3 (nd + nd2)) hg7 (by simp); have hwc : w7.cell? ⟨g, 2, none⟩ = _ := blk_cell hg8 2; have hwf : w7.frozen? ⟨g, 2, none⟩ = false := blk_frozen hg8 2; clear hat7 hR7 hC7 hc7 hg7))
      go_meet
      exact ⟨rfl, Aside0.mk (blk_put hg8 2 _ rfl), Aside0.mk (Below.setCell hb7 (p := ⟨g, 2, none⟩) hge _)⟩
    · -- the text y
      obtain rfl : k' = k := EK.out.trans (by rw [if_neg (by decide)])
      obtain rfl : n' = n := EN.out.trans (by rw [if_neg (by decide), if_neg (by decide)])
      obtain rfl : t' = ⟨#[121]⟩ := ET.out.trans (by rw [if_neg (by decide), if_pos rfl])
      have hwc : (w3.drewN nd).cell? ⟨g, 2, none⟩ = _ := blk_cell hg3 2
      have hwf : (w3.drewN nd).frozen? ⟨g, 2, none⟩ = false := blk_frozen hg3 2
      go_wp2_with fail
      go_meet
      exact ⟨rfl, Aside0.mk (blk_put (blk_drewN hg3 nd) 2 _ rfl), Aside0.mk (Below.setCell (pw_below_drewN hX4 nd) (p := ⟨g, 2, none⟩) hge _)⟩
    · -- as it was
      obtain rfl : k' = k := EK.out.trans (by rw [if_neg (by decide)])
      obtain rfl : n' = n := EN.out.trans (by rw [if_neg (by decide), if_neg (by decide)])
      obtain rfl : t' = t := ET.out.trans (by rw [if_neg (by decide), if_neg (by decide)])
      go_wp2_with fail
      go_meet
      exact ⟨rfl, Aside0.mk (blk_drewN hg3 nd), Aside0.mk (pw_below_drewN hX4 nd)⟩
  case rest =>
    obtain ⟨rfl, hgc, hbc⟩ := hcut
    clear hgk hg3 hC3 hv hX4 hb3 hb1 hb2 hX2 hX3 hc3 EK EN ET q8
    have hu25 := Tryd.underlying25
    have c0 : wc.cell? ⟨g, 0, none⟩ = _ := blk_cell hgc.out 0
    have c1 : wc.cell? ⟨g, 1, none⟩ = _ := blk_cell hgc.out 1
    have c2 : wc.cell? ⟨g, 2, none⟩ = _ := blk_cell hgc.out 2
    go_wp2_with fail
    refine (deadboltref15_Bytes.calls kb' k' n' t' bs' _ HB2.out).mono ?_
    rintro e w5 ⟨v0, rfl, hv, hb5⟩
    obtain ⟨A5, c5', rfl, hc5, hC5⟩ := Kd.R_reads hv
    have hX5 := below_step hbc.out hb5
    have hg5 := blk_below hgc.out hb5
    clear c0 c1 c2
    go_wp2_with fail
    refine (proto_Parse.calls kp A5 c5' bs' pk pn pt pe _ hC5 hc5 HP.out (HG.out.of_below hX5)).mono ?_
    rintro e w6 ⟨rfl, hb6⟩
    have hX6 := below_step hX5 hb6
    have hg6 := blk_below hg5 hb6
    clear hv hC5 hc5
    have c0 : (w6.alloc (.cells #[.int .i64 pk, .string pn, .string pt] 30)).cell? ⟨g, 0, none⟩ = _ := blk_cell (blk_alloc hg6 _) 0
    have c1 : (w6.alloc (.cells #[.int .i64 pk, .string pn, .string pt] 30)).cell? ⟨g, 1, none⟩ = _ := blk_cell (blk_alloc hg6 _) 1
    have c2 : (w6.alloc (.cells #[.int .i64 pk, .string pn, .string pt] 30)).cell? ⟨g, 2, none⟩ = _ := blk_cell (blk_alloc hg6 _) 2
    go_wp2_with fail
    refine (deadboltref15_May.calls ky k' n' t' is _ HY.out).mono ?_
    rintro e w7 ⟨rfl, hb7⟩
    have hn6 := blk_below (blk_new w6 (.cells #[.int .i64 pk, .string pn, .string pt] 30)) hb7
    have hg7 := blk_below (blk_alloc hg6 (.cells #[.int .i64 pk, .string pn, .string pt] 30)) hb7
    have hX7 := below_step (below_alloc hX6 _) hb7
    clear c0 c1 c2
    have c0 := blk_cell hg7 0
    have c1 := blk_cell hg7 1
    have c2 := blk_cell hg7 2
    have d0 := blk_cell hn6 0
    have d1 := blk_cell hn6 1
    have d2 := blk_cell hn6 2
    have hu30 := Tryd.underlying30
    have HF' := HF.out
    clear HB2 HP HY HF
    rcases HF' with ⟨rfl, rfl, rfl, rfl, rfl⟩ | ⟨rfl, rfl, rfl, rfl, rfl⟩
    · go_wp2_with fail
      first | exact ⟨rfl, pw_below_drewN hX7 _⟩ | exact ⟨rfl, hX7⟩ | (go_ret; exact ⟨rfl, hX7⟩) | (go_ret; exact ⟨rfl, pw_below_drewN hX7 _⟩)
    · go_wp2_with fail
      first | exact ⟨rfl, pw_below_drewN hX7 _⟩ | exact ⟨rfl, hX7⟩ | (go_ret; exact ⟨rfl, hX7⟩) | (go_ret; exact ⟨rfl, pw_below_drewN hX7 _⟩)
end Go.Proofs.YtpnnojigdhkjaaaDoor.Q
