/- CRC-32 in plain numbers: what it tells of a message that was turned in one place or in two. No program in sight. -/
import Derived.RowKit
import Derived.KernelRfl
namespace Go.Proofs.YtpnnojigdhkjaaaDoor.Lx
set_option linter.unusedSimpArgs false

def poly : Nat := 3988292384
def stp (c : Nat) : Nat := if c % 2 = 1 then (c / 2) ^^^ poly else c / 2
def stps : Nat → Nat → Nat
  | 0, c => c
  | n + 1, c => stps n (stp c)
def feed (c b : Nat) : Nat := stps 8 (c ^^^ b)
def feeds (c : Nat) (l : List Nat) : Nat := l.foldl feed c
/-- the number that a row of bytes spells, the least first -/
def valOf : List Nat → Nat
  | [] => 0
  | b :: l => b + 256 * valOf l
def ones : Nat := 4294967295
def crcN (l : List Nat) : Nat := feeds ones l ^^^ ones
def le32 (d : Nat) : List Nat := [d % 256, d / 256 % 256, d / 65536 % 256, d / 16777216 % 256]

theorem xor_mod2 (a b : Nat) : (a ^^^ b) % 2 = (a % 2) ^^^ (b % 2) := by
  have := @Nat.xor_mod_two_pow a b 1
  simpa using this
theorem stp_xor (a b : Nat) : stp (a ^^^ b) = stp a ^^^ stp b := by
  unfold stp
  rw [xor_mod2, Nat.xor_div_two]
  rcases Nat.mod_two_eq_zero_or_one a with ha | ha <;> rcases Nat.mod_two_eq_zero_or_one b with hb | hb <;> simp only [ha, hb]
  · simp
  · simp [Nat.xor_assoc]
  · simp only [if_true, Nat.one_ne_zero, Nat.zero_ne_one, if_false, show ((1 : Nat) ^^^ 0 = 1) = True by simp]
    rw [Nat.xor_assoc, Nat.xor_comm (b / 2) poly, ← Nat.xor_assoc]
  · have : ∀ x y : Nat, x ^^^ poly ^^^ (y ^^^ poly) = x ^^^ y := by
      intro x y
      rw [Nat.xor_comm y poly, Nat.xor_assoc, ← Nat.xor_assoc poly poly y, Nat.xor_self, Nat.zero_xor]
    simp [this]
theorem stps_xor (n : Nat) (a b : Nat) : stps n (a ^^^ b) = stps n a ^^^ stps n b := by
  induction n generalizing a b with
  | zero => rfl
  | succ n ih => simp only [stps, stp_xor, ih]
theorem stps_add (m n c : Nat) : stps (m + n) c = stps n (stps m c) := by
  induction m generalizing c with
  | zero => simp [stps]
  | succ m ih => rw [Nat.succ_add]; simp only [stps, ih]
theorem stp_lt {c : Nat} (h : c < 2 ^ 32) : stp c < 2 ^ 32 := by
  unfold stp
  split
  · exact Nat.xor_lt_two_pow (by omega) (by decide)
  · omega
theorem stps_lt (n : Nat) {c : Nat} (h : c < 2 ^ 32) : stps n c < 2 ^ 32 := by
  induction n generalizing c with
  | zero => exact h
  | succ n ih => exact ih (stp_lt h)
theorem stp_zero' {c : Nat} (h : c < 2 ^ 32) (h0 : stp c = 0) : c = 0 := by
  unfold stp at h0
  split at h0
  · have h1 : c / 2 ^^^ poly ^^^ poly = poly := by rw [h0]; simp
    rw [Nat.xor_assoc, Nat.xor_self, Nat.xor_zero] at h1
    have : poly = 3988292384 := rfl
    omega
  · omega
theorem stps_zero' (n : Nat) {c : Nat} (h : c < 2 ^ 32) (h0 : stps n c = 0) : c = 0 := by
  induction n generalizing c with
  | zero => exact h0
  | succ n ih => exact stp_zero' h (ih (stp_lt h) h0)
theorem xor_zero_eq {a b : Nat} (h : a ^^^ b = 0) : a = b := by
  have h1 : a ^^^ b ^^^ b = b := by rw [h]; simp
  rwa [Nat.xor_assoc, Nat.xor_self, Nat.xor_zero] at h1
theorem stps_inj (n : Nat) {a b : Nat} (ha : a < 2 ^ 32) (hb : b < 2 ^ 32) (h : stps n a = stps n b) : a = b :=
  xor_zero_eq (stps_zero' n (Nat.xor_lt_two_pow ha hb) (by rw [stps_xor, h, Nat.xor_self]))
theorem stp_even (y : Nat) : stp (2 * y) = y := by
  unfold stp
  rw [_root_.if_neg (by omega)]
  omega
theorem stps_shift (n y : Nat) : stps n (2 ^ n * y) = y := by
  induction n generalizing y with
  | zero => simp [stps]
  | succ n ih =>
    show stps n (stp (2 ^ (n + 1) * y)) = y
    rw [show 2 ^ (n + 1) * y = 2 * (2 ^ n * y) by rw [Nat.pow_succ, Nat.mul_comm (2 ^ n) 2, Nat.mul_assoc], stp_even, ih]
theorem low_xor (b v : Nat) (hb : b < 256) : b + 256 * v = b ^^^ (256 * v) := by
  have h1 : (b ^^^ (256 * v)) % 2 ^ 8 = b := by
    rw [Nat.xor_mod_two_pow]
    rw [show 256 * v % 2 ^ 8 = 0 by omega, show b % 2 ^ 8 = b by omega, Nat.xor_zero]
  have h2 : (b ^^^ (256 * v)) / 2 ^ 8 = v := by
    rw [Nat.xor_div_two_pow]
    rw [show 256 * v / 2 ^ 8 = v by omega, show b / 2 ^ 8 = 0 by omega, Nat.zero_xor]
  omega
/-- a whole message is fed as one number -/
theorem feeds_val (l : List Nat) (hl : ∀ b ∈ l, b < 256) (c : Nat) : feeds c l = stps (8 * l.length) (c ^^^ valOf l) := by
  induction l generalizing c with
  | nil => simp [feeds, valOf, stps]
  | cons b l ih =>
    have hb := hl b (by simp)
    show feeds (feed c b) l = _
    rw [ih (fun x hx => hl x (by simp [hx]))]
    rw [show 8 * (b :: l).length = 8 + 8 * l.length by simp only [List.length_cons]; omega, stps_add]
    congr 1
    rw [show valOf (b :: l) = b + 256 * valOf l from rfl, show feed c b = stps 8 (c ^^^ b) from rfl]
    rw [low_xor _ _ hb, ← Nat.xor_assoc, stps_xor 8 (c ^^^ b), stps_shift 8]
theorem feeds_append (c : Nat) (l l' : List Nat) : feeds c (l ++ l') = feeds (feeds c l) l' := List.foldl_append
theorem feeds_lt (l : List Nat) (hl : ∀ b ∈ l, b < 256) {c : Nat} (h : c < 2 ^ 32) : feeds c l < 2 ^ 32 := by
  induction l generalizing c with
  | nil => exact h
  | cons b l ih => exact ih (fun x hx => hl x (by simp [hx])) (stps_lt 8 (Nat.xor_lt_two_pow h (by have := hl b (by simp); omega)))
theorem crcN_lt (l : List Nat) (hl : ∀ b ∈ l, b < 256) : crcN l < 2 ^ 32 := Nat.xor_lt_two_pow (feeds_lt l hl (by decide)) (by decide)
theorem valOf_le32 (d : Nat) (h : d < 2 ^ 32) : valOf (le32 d) = d := by
  simp only [le32, valOf]
  omega
theorem le32_lt (d : Nat) : ∀ b ∈ le32 d, b < 256 := by
  intro b hb
  simp only [le32, List.mem_cons, List.not_mem_nil, or_false] at hb
  omega
theorem le32_length (d : Nat) : (le32 d).length = 4 := rfl
/-- a message with its sum behind it leaves one register, whatever it says -/
theorem sealed_register (l : List Nat) (hl : ∀ b ∈ l, b < 256) : feeds ones (l ++ le32 (crcN l)) = stps 32 ones := by
  rw [feeds_append, feeds_val _ (le32_lt _), le32_length, valOf_le32 _ (crcN_lt l hl)]
  unfold crcN
  rw [← Nat.xor_assoc, Nat.xor_self, Nat.zero_xor]
theorem register_diff (l l' : List Nat) (hl : ∀ b ∈ l, b < 256) (hl' : ∀ b ∈ l', b < 256) (hn : l.length = l'.length) (h : feeds ones l = feeds ones l') :
    stps (8 * l.length) (valOf l ^^^ valOf l') = 0 := by
  rw [feeds_val l hl, feeds_val l' hl', ← hn] at h
  have h2 : stps (8 * l.length) ((ones ^^^ valOf l) ^^^ (ones ^^^ valOf l')) = 0 := by rw [stps_xor, h, Nat.xor_self]
  rwa [show (ones ^^^ valOf l) ^^^ (ones ^^^ valOf l') = valOf l ^^^ valOf l' by
    rw [Nat.xor_comm ones (valOf l), Nat.xor_assoc, ← Nat.xor_assoc ones ones, Nat.xor_self, Nat.zero_xor]] at h2
theorem two_stp (n p : Nat) (h : p ≤ n) : stps n (2 ^ p) = stps (n - p) 1 := by
  rw [show n = p + (n - p) by omega, stps_add, show p + (n - p) - p = n - p by omega]
  congr 1
  have := stps_shift p 1
  rwa [Nat.mul_one] at this
theorem one_turn (n p : Nat) (h : p ≤ n) : stps n (2 ^ p) ≠ 0 := by
  rw [two_stp n p h]
  intro h0
  have := stps_zero' (n - p) (by decide) h0
  omega

/-- none of the next n registers is 1 -/
def noneOne : Nat → Nat → Bool
  | 0, _ => true
  | n + 1, c => (stp c != 1) && noneOne n (stp c)
theorem noneOne_ne : ∀ (n c : Nat), noneOne n c = true → ∀ d, 0 < d → d ≤ n → stps d c ≠ 1
  | 0, _, _, d, h0, h1 => by omega
  | n + 1, c, h, d, h0, h1 => by
    unfold noneOne at h
    simp only [Bool.and_eq_true, bne_iff_ne, ne_eq] at h
    match d, h0, h1 with
    | 1, _, _ => exact h.1
    | d + 2, _, h1 => exact noneOne_ne n (stp c) h.2 (d + 1) (by omega) (by omega)
theorem noneOne_add : ∀ (m n c : Nat), noneOne m c = true → noneOne n (stps m c) = true → noneOne (m + n) c = true
  | 0, n, c, _, h => by simpa [stps] using h
  | m + 1, n, c, h, h' => by
    rw [Nat.succ_add]
    unfold noneOne at h ⊢
    simp only [Bool.and_eq_true] at h ⊢
    exact ⟨h.1, noneOne_add m n (stp c) h.2 h'⟩
theorem none_one : noneOne 4200 1 = true := by kernel_rfl
theorem two_turns (n p q : Nat) (hp : p < q) (hq : q ≤ n) (hd : q - p ≤ 4200) : stps n (2 ^ p ^^^ 2 ^ q) ≠ 0 := by
  intro h0
  rw [stps_xor, two_stp n p (by omega), two_stp n q hq] at h0
  have h1 := xor_zero_eq h0
  rw [show n - p = (q - p) + (n - q) by omega, stps_add] at h1
  exact noneOne_ne 4200 1 none_one (q - p) (by omega) hd (stps_inj (n - q) (stps_lt _ (by decide)) (by decide) h1)

theorem mul_xor (a b : Nat) : 256 * (a ^^^ b) = (256 * a) ^^^ (256 * b) := by
  have := @Nat.shiftLeft_xor_distrib 8 a b
  simp only [Nat.shiftLeft_eq] at this
  rw [Nat.mul_comm 256, Nat.mul_comm 256 a, Nat.mul_comm 256 b]
  exact this
theorem turn_lt {b j : Nat} (hb : b < 256) (hj : j < 8) : b ^^^ 2 ^ j < 256 :=
  Nat.xor_lt_two_pow (n := 8) hb (Nat.pow_lt_pow_right (by decide) hj)
/-- one place of a message, turned -/
theorem valOf_turn (l : List Nat) (hl : ∀ b ∈ l, b < 256) (i j : Nat) (hi : i < l.length) (hj : j < 8) :
    valOf (l.set i (l.getD i 0 ^^^ 2 ^ j)) = valOf l ^^^ 2 ^ (8 * i + j) := by
  induction l generalizing i with
  | nil => simp at hi
  | cons b l ih =>
    have hb := hl b (by simp)
    cases i with
    | zero =>
      show (b ^^^ 2 ^ j) + 256 * valOf l = (b + 256 * valOf l) ^^^ 2 ^ (8 * 0 + j)
      rw [low_xor _ _ (turn_lt hb hj), low_xor _ _ hb, Nat.mul_zero, Nat.zero_add, Nat.xor_assoc, Nat.xor_comm (2 ^ j), Nat.xor_assoc]
    | succ i =>
      show b + 256 * valOf (l.set i (l.getD i 0 ^^^ 2 ^ j)) = (b + 256 * valOf l) ^^^ 2 ^ (8 * (i + 1) + j)
      rw [ih (fun x hx => hl x (by simp [hx])) i (by simpa using hi), low_xor _ _ hb, low_xor _ _ hb, mul_xor, ← Nat.xor_assoc]
      congr 1
      rw [show 8 * (i + 1) + j = 8 + (8 * i + j) by omega, Nat.pow_add 2 8]
theorem set_lt {l : List Nat} (hl : ∀ b ∈ l, b < 256) (i v : Nat) (hv : v < 256) : ∀ b ∈ l.set i v, b < 256 := by
  intro b hb
  rcases List.mem_or_eq_of_mem_set hb with h | rfl
  · exact hl b h
  · exact hv
end Go.Proofs.YtpnnojigdhkjaaaDoor.Lx
