/- Chapter 15: what its functions tell, in plain words. -/
import Derived.Test.YtpnnojigdhkjaaaDoorCrc
import Derived.Test.YtpnnojigdhkjaaaDoorText
import Derived.Test.YtpnnojigdhkjaaaDoorProMay
import Derived.Test.YtpnnojigdhkjaaaDoorProRead
import Derived.Test.YtpnnojigdhkjaaaDoorQ5
import Derived.Test.YtpnnojigdhkjaaaDoorQ6
import Derived.Test.YtpnnojigdhkjaaaDoorQ2
import Derived.Test.YtpnnojigdhkjaaaDoorQ2
namespace Go.Proofs.YtpnnojigdhkjaaaDoor.Q
open Go.RowKit Go.Proofs.YtpnnojigdhkjaaaDoorW.PrintWords Go.Proofs.YtpnnojigdhkjaaaDoorW.PrintLast Go.Proofs.YtpnnojigdhkjaaaDoorW.PrintMore Go.Proofs.YtpnnojigdhkjaaaDoor.Lx
set_option linter.unusedVariables false
set_option linter.unusedSimpArgs false

def Bts (l : List Int) : Prop := ∀ x ∈ l, 0 ≤ x ∧ x < 256
def nats (l : List Int) : List Nat := l.map Int.toNat
def ints (l : List Nat) : List Int := l.map fun (n : Nat) => (n : Int)
theorem Bts.app {a b : List Int} (ha : Bts a) (hb : Bts b) : Bts (a ++ b) := by
  intro x hx
  rcases List.mem_append.mp hx with h | h
  · exact ha x h
  · exact hb x h
theorem Bts.nats {l : List Int} (h : Bts l) : ∀ b ∈ nats l, b < 256 := by
  intro b hb
  obtain ⟨x, hx, rfl⟩ := List.mem_map.mp hb
  have := h x hx
  omega
theorem ints_Bts {l : List Nat} (h : ∀ b ∈ l, b < 256) : Bts (ints l) := by
  intro x hx
  obtain ⟨b, hb, rfl⟩ := List.mem_map.mp hx
  have := h b hb
  omega
theorem nats_ints (l : List Nat) : nats (ints l) = l := by
  unfold nats ints
  rw [List.map_map]
  conv => rhs; rw [← List.map_id l]
  rfl
theorem nats_app (a b : List Int) : nats (a ++ b) = nats a ++ nats b := by simp [nats]
theorem nats_len (a : List Int) : (nats a).length = a.length := by simp [nats]
theorem bytesOf_Bts (s : ByteArray) : Bts (bytesOf s) := by
  intro x hx
  obtain ⟨b, hb, rfl⟩ := List.mem_map.mp hx
  have := b.toNat_lt
  omega
theorem strOf_bytesOf (s : ByteArray) : strOfNums (bytesOf s) = s := by
  apply ba_ext
  rw [strOfNums_data, bytesOf, List.map_map]
  conv => rhs; rw [← List.map_id s.data.toList]
  apply List.map_congr_left
  intro b hb
  simp
theorem bytesOf_strOf (l : List Int) (h : Bts l) : bytesOf (strOfNums l) = l := by
  unfold bytesOf
  rw [strOfNums_data, List.map_map]
  conv => rhs; rw [← List.map_id l]
  apply List.map_congr_left
  intro x hx
  have := h x hx
  show ((UInt8.ofNat x.toNat).toNat : Int) = x
  rw [UInt8.toNat_ofNat']
  omega
theorem strOf_inj {a b : List Int} (ha : Bts a) (hb : Bts b) : (strOfNums a).toList = (strOfNums b).toList ↔ a = b := by
  constructor
  · intro h
    rw [ByteArray.toList_eq, ByteArray.toList_eq] at h
    rw [← bytesOf_strOf a ha, ← bytesOf_strOf b hb, ba_ext h]
  · rintro rfl
    rfl

/-! ### the sum -/
theorem wraps_u32' (n : Int) (h0 : 0 ≤ n) (h1 : n < 2 ^ 32) : IntKind.u32.wrap n = n := by rw [IntKind.wrap_u32]; omega
theorem bits_xor_k (k : IntKind) (j : Nat) (hj : j ≤ k.bits) (hk : ∀ n : Int, 0 ≤ n → n < 2 ^ j → k.wrap n = n) (a b : Nat) (ha : a < 2 ^ j) (hb : b < 2 ^ j) :
    bits .xor k a b = ((a ^^^ b : Nat) : Int) := by
  have hp : 2 ^ j ≤ 2 ^ k.bits := Nat.pow_le_pow_right (by decide) hj
  have ha' : a % 2 ^ k.bits = a := Nat.mod_eq_of_lt (Nat.lt_of_lt_of_le ha hp)
  have hb' : b % 2 ^ k.bits = b := Nat.mod_eq_of_lt (Nat.lt_of_lt_of_le hb hp)
  have cast : ∀ n : Nat, n < 2 ^ j → ((n : Nat) : Int) < 2 ^ j := fun n h => by exact_mod_cast h
  simp only [bits, BitVec.ofInt_natCast, BitVec.toNat_xor, BitVec.toNat_ofNat, ha', hb']
  exact hk _ (Int.natCast_nonneg _) (cast _ (Nat.xor_lt_two_pow ha hb))
theorem bits_xor32 (a b : Nat) (ha : a < 2 ^ 32) (hb : b < 2 ^ 32) : bits .xor .u32 (a : Int) (b : Int) = ((a ^^^ b : Nat) : Int) :=
  bits_xor_k .u32 32 (by decide) wraps_u32' a b ha hb
theorem bits_and1 (a : Nat) (ha : a < 2 ^ 32) : bits .and .u32 (a : Int) 1 = ((a % 2 : Nat) : Int) := by
  have := (bits_nat .u32 32 (by decide) wraps_u32' a 1 ha (by decide)).1
  rw [Nat.and_one_is_mod] at this
  exact this
theorem stp_odd (c : Nat) (hc : c < 2 ^ 32) (h : c % 2 = 1) : bits .xor .u32 ((c : Int) / 2) 3988292384 = ((stp c : Nat) : Int) := by
  have := bits_xor32 (c / 2) poly (by omega) (by decide)
  unfold stp
  rw [if_pos h, ← this]
  rfl
theorem stp_ev (c : Nat) (h : ¬ c % 2 = 1) : (c : Int) / 2 = ((stp c : Nat) : Int) := by
  unfold stp
  rw [if_neg h]
  rfl

theorem sect_l1 (x6 : List Int) (x7 x8 : Int) {r : Int} : ∀ (n c : Nat), n ≤ 8 → c < 2 ^ 32 → EvS (fun k => sect_Crc.l0 k ((stps n c : Nat) : Int) x6 x7 (wrap64 (x8 + 1))) r → EvS (fun k => sect_Crc.l1 k (c : Int) x6 x7 x8 (8 - (n : Int))) r
  | 0, c, _, _, h => by
    refine EvS.succ ?_
    simp only [sect_Crc.l1]
    exact EvS.if_neg (by omega) h
  | n + 1, c, hn, hc, h => by
    have hw : wrap64 (8 - ((n + 1 : Nat) : Int) + 1) = 8 - (n : Int) := by rw [w64 (by omega)]; omega
    refine EvS.succ ?_
    simp only [sect_Crc.l1]
    refine EvS.if_pos (by omega) ?_
    rw [bits_and1 c hc, hw]
    by_cases h1 : c % 2 = 1
    · refine EvS.if_pos (by omega) ?_
      rw [stp_odd c hc h1]
      exact sect_l1 x6 x7 x8 n (stp c) (by omega) (stp_lt hc) h
    · refine EvS.if_neg (by omega) ?_
      rw [stp_ev c h1]
      exact sect_l1 x6 x7 x8 n (stp c) (by omega) (stp_lt hc) h
theorem ref2_l1 (x0 : List Int) (x4 : Int) {r : Int} : ∀ (n c : Nat), n ≤ 8 → c < 2 ^ 32 → EvS (fun k => deadboltref2_Crc.l0 k x0 ((stps n c : Nat) : Int) (wrap64 (x4 + 1))) r → EvS (fun k => deadboltref2_Crc.l1 k x0 (c : Int) x4 (8 - (n : Int))) r
  | 0, c, _, _, h => by
    refine EvS.succ ?_
    simp only [deadboltref2_Crc.l1]
    exact EvS.if_neg (by omega) h
  | n + 1, c, hn, hc, h => by
    have hw : wrap64 (8 - ((n + 1 : Nat) : Int) + 1) = 8 - (n : Int) := by rw [w64 (by omega)]; omega
    refine EvS.succ ?_
    simp only [deadboltref2_Crc.l1]
    refine EvS.if_pos (by omega) ?_
    rw [bits_and1 c hc, hw]
    by_cases h1 : c % 2 = 1
    · refine EvS.if_pos (by omega) ?_
      rw [stp_odd c hc h1]
      exact ref2_l1 x0 x4 n (stp c) (by omega) (stp_lt hc) h
    · refine EvS.if_neg (by omega) ?_
      rw [stp_ev c h1]
      exact ref2_l1 x0 x4 n (stp c) (by omega) (stp_lt hc) h
theorem byte_in (l : List Int) (hl : Bts l) (i c : Nat) (hlt : i < l.length) (hc : c < 2 ^ 32) :
    ∃ b, b < 256 ∧ nats (l.drop i) = b :: nats (l.drop (i + 1)) ∧ bits .xor .u32 (c : Int) (rd l (i : Int) % 4294967296) = ((c ^^^ b : Nat) : Int) := by
  have hx := hl l[i] (List.getElem_mem hlt)
  have hrd : rd l (i : Int) = l[i] := by simp [rd, List.getD_eq_getElem?_getD, List.getElem?_eq_getElem hlt]
  obtain ⟨b, hb⟩ := Int.eq_ofNat_of_zero_le hx.1
  refine ⟨b, by omega, ?_, ?_⟩
  · rw [List.drop_eq_getElem_cons hlt]
    simp [nats, hb]
  · rw [hrd, hb, show ((b : Int) % 4294967296) = b by omega]
    exact bits_xor32 c b hc (by omega)
theorem sect_l0 (l : List Int) (hl : Bts l) (hlen : l.length < 4611686018427387904) : ∀ (d i c : Nat), l.length - i = d → i ≤ l.length → c < 2 ^ 32 → EvS (fun k => sect_Crc.l0 k (c : Int) l (l.length : Int) (i : Int)) ((feeds c (nats (l.drop i)) ^^^ ones : Nat) : Int)
  | 0, i, c, hd, hi, hc => by
    obtain rfl : i = l.length := by omega
    rw [List.drop_length]
    refine EvS.succ ?_
    simp only [sect_Crc.l0]
    refine EvS.if_neg (by omega) ?_
    have e : bits .xor .u32 4294967295 (c : Int) = ((feeds c (nats []) ^^^ ones : Nat) : Int) := by
      have := bits_xor32 ones c (by decide) hc
      rw [Nat.xor_comm] at this
      exact this
    rw [e]
    exact .some_ _
  | d + 1, i, c, hd, hi, hc => by
    have hlt : i < l.length := by omega
    obtain ⟨b, hb, hn, hbit⟩ := byte_in l hl i c hlt hc
    have hw : wrap64 ((i : Int) + 1) = ((i + 1 : Nat) : Int) := by rw [w64 (by omega)]; omega
    refine EvS.succ ?_
    simp only [sect_Crc.l0]
    refine EvS.if_pos (by omega) (EvS.if_pos (by omega) (EvS.if_pos (by omega) ?_))
    rw [hbit]
    refine sect_l1 l (l.length : Int) (i : Int) 8 (c ^^^ b) (by omega) (Nat.xor_lt_two_pow hc (by omega)) ?_
    rw [hw, hn]
    exact sect_l0 l hl hlen d (i + 1) _ (by omega) (by omega) (stps_lt 8 (Nat.xor_lt_two_pow hc (by omega)))
theorem ref2_l0 (l : List Int) (hl : Bts l) (hlen : l.length < 4611686018427387904) : ∀ (d i c : Nat), l.length - i = d → i ≤ l.length → c < 2 ^ 32 → EvS (fun k => deadboltref2_Crc.l0 k l (c : Int) (i : Int)) ((feeds c (nats (l.drop i)) ^^^ ones : Nat) : Int)
  | 0, i, c, hd, hi, hc => by
    obtain rfl : i = l.length := by omega
    rw [List.drop_length]
    refine EvS.succ ?_
    simp only [deadboltref2_Crc.l0]
    refine EvS.if_neg (by omega) ?_
    have e : bits .xor .u32 (c : Int) 4294967295 = ((feeds c (nats []) ^^^ ones : Nat) : Int) := bits_xor32 c ones hc (by decide)
    rw [e]
    exact .some_ _
  | d + 1, i, c, hd, hi, hc => by
    have hlt : i < l.length := by omega
    obtain ⟨b, hb, hn, hbit⟩ := byte_in l hl i c hlt hc
    have hw : wrap64 ((i : Int) + 1) = ((i + 1 : Nat) : Int) := by rw [w64 (by omega)]; omega
    refine EvS.succ ?_
    simp only [deadboltref2_Crc.l0]
    refine EvS.if_pos (by omega) (EvS.if_pos (by omega) ?_)
    rw [hbit]
    refine ref2_l1 l (i : Int) 8 (c ^^^ b) (by omega) (Nat.xor_lt_two_pow hc (by omega)) ?_
    rw [hw, hn]
    exact ref2_l0 l hl hlen d (i + 1) _ (by omega) (by omega) (stps_lt 8 (Nat.xor_lt_two_pow hc (by omega)))
theorem sect_Crc_ev (l : List Int) (hl : Bts l) (hlen : l.length < 4611686018427387904) : EvS (fun k => sect_Crc.f k l) ((crcN (nats l) : Nat) : Int) :=
  sect_l0 l hl hlen _ 0 ones rfl (by omega) (by decide)
theorem ref2_Crc_ev (l : List Int) (hl : Bts l) (hlen : l.length < 4611686018427387904) : EvS (fun k => deadboltref2_Crc.f k l) ((crcN (nats l) : Nat) : Int) :=
  ref2_l0 l hl hlen _ 0 ones rfl (by omega) (by decide)

/-! ### a request as bytes -/
def msgI (k : Int) (n t : ByteArray) : List Int := [k % 256, (n.size : Int) % 256] ++ bytesOf n ++ [(t.size : Int) % 256, (t.size : Int) / 256 % 256] ++ bytesOf t
def sealI (l : List Int) : List Int := l ++ ints (le32 (crcN (nats l)))
theorem msgI_Bts (k : Int) (n t : ByteArray) : Bts (msgI k n t) := by
  refine ((Bts.app ?_ (bytesOf_Bts n)).app ?_).app (bytesOf_Bts t) <;>
  · intro x hx
    simp only [List.mem_cons, List.not_mem_nil, or_false] at hx
    omega
theorem msgI_len (k : Int) (n t : ByteArray) : (msgI k n t).length = n.size + t.size + 4 := by
  simp only [msgI, List.length_append, bytesOf_length, List.length_cons, List.length_nil]
  omega
theorem sealI_Bts {l : List Int} (h : Bts l) : Bts (sealI l) := h.app (ints_Bts (le32_lt _))
theorem sealI_len (l : List Int) : (sealI l).length = l.length + 4 := by simp [sealI, ints, le32]
theorem shr_bytes (d : Nat) (j : Nat) (hj : j ≤ 32) : shr .u32 (d : Int) (j : Int) = ((d / 2 ^ j : Nat) : Int) := by
  unfold shr
  rw [show min (j : Int).toNat IntKind.u32.bits = j by show min j 32 = j; omega]
  simp
theorem le32_ints (d : Nat) : ints (le32 d) = [((d / 2 ^ 0 : Nat) : Int) % 256, ((d / 2 ^ 8 : Nat) : Int) % 256, ((d / 2 ^ 16 : Nat) : Int) % 256, ((d / 2 ^ 24 : Nat) : Int) % 256] := by
  simp [ints, le32]
theorem Bytes_l0 (l : List Int) (hl : l.length + 4 < 140737488355328) (d : Nat) : EvS (fun k => proto_Bytes.l0 k l 0 (d : Int)) (l ++ ints (le32 d)) := by
  have e0 := shr_bytes d 0 (by decide +kernel)
  have e1 := shr_bytes d 8 (by decide +kernel)
  have e2 := shr_bytes d 16 (by decide +kernel)
  have e3 := shr_bytes d 24 (by decide +kernel)
  refine EvS.succ ?_
  simp only [proto_Bytes.l0]
  refine EvS.if_pos (by decide +kernel) (EvS.if_pos (by decide +kernel) (EvS.if_pos (by omega) ?_))
  rw [show wrap64 (0 + 1) = 1 by decide +kernel, show wrap64 (8 * 0) = ((0 : Nat) : Int) by decide +kernel, e0]
  refine EvS.succ ?_
  simp only [proto_Bytes.l0]
  refine EvS.if_pos (by decide +kernel) (EvS.if_pos (by decide +kernel) (EvS.if_pos (by simp only [List.length_append, List.length_cons, List.length_nil]; omega) ?_))
  rw [show wrap64 (1 + 1) = 2 by decide +kernel, show wrap64 (8 * 1) = ((8 : Nat) : Int) by decide +kernel, e1]
  refine EvS.succ ?_
  simp only [proto_Bytes.l0]
  refine EvS.if_pos (by decide +kernel) (EvS.if_pos (by decide +kernel) (EvS.if_pos (by simp only [List.length_append, List.length_cons, List.length_nil]; omega) ?_))
  rw [show wrap64 (2 + 1) = 3 by decide +kernel, show wrap64 (8 * 2) = ((16 : Nat) : Int) by decide +kernel, e2]
  refine EvS.succ ?_
  simp only [proto_Bytes.l0]
  refine EvS.if_pos (by decide +kernel) (EvS.if_pos (by decide +kernel) (EvS.if_pos (by simp only [List.length_append, List.length_cons, List.length_nil]; omega) ?_))
  rw [show wrap64 (3 + 1) = 4 by decide +kernel, show wrap64 (8 * 3) = ((24 : Nat) : Int) by decide +kernel, e3]
  refine EvS.succ ?_
  simp only [proto_Bytes.l0]
  refine EvS.if_neg (by decide +kernel) (EvS.if_pos (by simp only [List.length_append, List.length_cons, List.length_nil]; omega) ?_)
  rw [le32_ints]
  simp only [List.append_assoc, List.cons_append, List.nil_append]
  exact .some_ _
theorem ref_Bytes_l0 (l : List Int) (hl : l.length + 4 < 140737488355328) (d : Nat) : EvS (fun k => deadboltref15_Bytes.l0 k l (d : Int) 0) (l ++ ints (le32 d)) := by
  have e0 := shr_bytes d 0 (by decide +kernel)
  have e1 := shr_bytes d 8 (by decide +kernel)
  have e2 := shr_bytes d 16 (by decide +kernel)
  have e3 := shr_bytes d 24 (by decide +kernel)
  refine EvS.succ ?_
  simp only [deadboltref15_Bytes.l0]
  refine EvS.if_pos (by decide +kernel) (EvS.if_pos (by decide +kernel) (EvS.if_pos (by omega) ?_))
  rw [show wrap64 (0 + 1) = 1 by decide +kernel, show IntKind.u64.wrap (wrap64 (8 * 0)) = ((0 : Nat) : Int) by decide +kernel, e0]
  refine EvS.succ ?_
  simp only [deadboltref15_Bytes.l0]
  refine EvS.if_pos (by decide +kernel) (EvS.if_pos (by decide +kernel) (EvS.if_pos (by simp only [List.length_append, List.length_cons, List.length_nil]; omega) ?_))
  rw [show wrap64 (1 + 1) = 2 by decide +kernel, show IntKind.u64.wrap (wrap64 (8 * 1)) = ((8 : Nat) : Int) by decide +kernel, e1]
  refine EvS.succ ?_
  simp only [deadboltref15_Bytes.l0]
  refine EvS.if_pos (by decide +kernel) (EvS.if_pos (by decide +kernel) (EvS.if_pos (by simp only [List.length_append, List.length_cons, List.length_nil]; omega) ?_))
  rw [show wrap64 (2 + 1) = 3 by decide +kernel, show IntKind.u64.wrap (wrap64 (8 * 2)) = ((16 : Nat) : Int) by decide +kernel, e2]
  refine EvS.succ ?_
  simp only [deadboltref15_Bytes.l0]
  refine EvS.if_pos (by decide +kernel) (EvS.if_pos (by decide +kernel) (EvS.if_pos (by simp only [List.length_append, List.length_cons, List.length_nil]; omega) ?_))
  rw [show wrap64 (3 + 1) = 4 by decide +kernel, show IntKind.u64.wrap (wrap64 (8 * 3)) = ((24 : Nat) : Int) by decide +kernel, e3]
  refine EvS.succ ?_
  simp only [deadboltref15_Bytes.l0]
  refine EvS.if_neg (by decide +kernel) ?_
  rw [le32_ints]
  simp only [List.append_assoc, List.cons_append, List.nil_append]
  exact .some_ _
theorem Bytes_ev (k : Int) (n t : ByteArray) (hn : n.size ≤ 1099511627776) (ht : t.size ≤ 1099511627776) : EvS (fun j => proto_Bytes.f j k n t) (sealI (msgI k n t)) := by
  have h1 := bytesOf_length n
  have h2 := bytesOf_length t
  have hm := msgI_len k n t
  unfold proto_Bytes.f
  refine EvS.bind1 rfl (EvS.if_pos ?_ (EvS.bind1 rfl (EvS.bind1 rfl (EvS.if_pos ?_ (EvS.bind1 rfl (EvS.if_pos ?_ (EvS.bind1 rfl (EvS.bind (sect_Crc_ev (msgI k n t) (msgI_Bts k n t) ?_) (Bytes_l0 (msgI k n t) ?_ _)))))))))
  all_goals first | omega | (simp only [List.length_append, List.length_cons, List.length_nil]; omega)
theorem ref_Bytes_ev (k : Int) (n t : ByteArray) (hn : n.size ≤ 1099511627776) (ht : t.size ≤ 1099511627776) : EvS (fun j => deadboltref15_Bytes.f j k n t) (sealI (msgI k n t)) := by
  have h1 := bytesOf_length n
  have h2 := bytesOf_length t
  have hm := msgI_len k n t
  unfold deadboltref15_Bytes.f
  refine EvS.bind1 rfl (EvS.if_pos ?_ (EvS.bind1 rfl (EvS.bind1 rfl (EvS.if_pos ?_ (EvS.bind1 rfl (EvS.if_pos ?_ (EvS.bind1 rfl (EvS.bind (ref2_Crc_ev (msgI k n t) (msgI_Bts k n t) ?_) (ref_Bytes_l0 (msgI k n t) ?_ _)))))))))
  all_goals first | omega | (simp only [List.length_append, List.length_cons, List.length_nil]; omega)

/-! ### Parse -/
def mayB (k : Int) (n t : ByteArray) : Bool := (proto_may.f k n t).getD false
def badR : Int × ByteArray × ByteArray × Int := (0, ⟨#[]⟩, ⟨#[]⟩, 12)
def parseR (x : List Int) : Int × ByteArray × ByteArray × Int :=
  match readL x with
  | some (k, n, t) => if mayB k n t = true ∧ sealI (msgI k n t) = x then (k, n, t, 0) else badR
  | none => badR
theorem Bts_all {x : List Int} (h : Bts x) : x.all byteB = true := by
  refine List.all_eq_true.mpr fun a ha => ?_
  have := h a ha
  simp only [byteB, Bool.and_eq_true, decide_eq_true_eq]
  omega
theorem readL_size {x : List Int} {k : Int} {n t : ByteArray} (h : readL x = some (k, n, t)) : n.size ≤ x.length ∧ t.size ≤ x.length := by
  unfold readL at h
  split at h
  · rename_i k' n' r
    split at h
    · split at h
      · rename_i h1 a b r3 h3
        split at h
        · simp only [Option.some.injEq, Prod.mk.injEq] at h
          obtain ⟨rfl, rfl, rfl⟩ := h
          have := congrArg List.length h3
          simp only [List.length_drop, List.length_cons] at this
          rw [strOfNums_size, strOfNums_size]
          simp only [List.length_take, List.length_cons]
          omega
        · cases h
      · cases h
    · cases h
  · cases h
theorem Parse_ev (x : List Int) (hx : Bts x) (hl : x.length ≤ 1099511627776) : EvS (fun k => proto_Parse.f k x) (parseR x) := by
  have hr : proto_read.f x = some (readR (readL x)) := by rw [proto_read.f, if_pos (Bts_all hx)]
  unfold proto_Parse.f parseR
  refine EvS.bind1 hr ?_
  cases he : readL x with
  | none => exact EvS.if_neg (by simp [readR]) (.some_ _)
  | some p =>
    obtain ⟨k, n, t⟩ := p
    have hs := readL_size he
    have hm : proto_may.f k n t = some (mayB k n t) := rfl
    show EvS _ (if mayB k n t = true ∧ sealI (msgI k n t) = x then (k, n, t, (0 : Int)) else badR)
    refine EvS.if_pos (by simp [readR]) (EvS.bind1 hm ?_)
    by_cases h1 : mayB k n t = true
    · refine EvS.if_pos h1 (EvS.bind (Bytes_ev k n t (by omega) (by omega)) ?_)
      by_cases h2 : sealI (msgI k n t) = x
      · have e : (if mayB k n t = true ∧ sealI (msgI k n t) = x then (k, n, t, (0 : Int)) else badR) = (k, n, t, 0) := if_pos ⟨h1, h2⟩
        rw [e]
        exact EvS.if_pos ((strOf_inj (sealI_Bts (msgI_Bts _ _ _)) hx).mpr h2) (.some_ _)
      · have e : (if mayB k n t = true ∧ sealI (msgI k n t) = x then (k, n, t, (0 : Int)) else badR) = badR := if_neg fun h => h2 h.2
        rw [e]
        exact EvS.if_neg (fun h => h2 ((strOf_inj (sealI_Bts (msgI_Bts _ _ _)) hx).mp h)) (.some_ _)
    · have e : (if mayB k n t = true ∧ sealI (msgI k n t) = x then (k, n, t, (0 : Int)) else badR) = badR := if_neg fun h => h1 h.1
      rw [e]
      exact EvS.if_neg h1 (.some_ _)
theorem drop_app (a b : List Int) (n : Nat) (h : a.length = n) : (a ++ b).drop n = b := by subst h; simp
theorem take_app (a b : List Int) (n : Nat) (h : a.length = n) : (a ++ b).take n = a := by subst h; simp
theorem readL_seal (k : Int) (n t : ByteArray) (hk : 0 ≤ k ∧ k < 256) (hn : n.size < 256) (ht : t.size < 65536) (e : List Int) : readL (msgI k n t ++ e) = some (k, n, t) := by
  have h1 := bytesOf_length n
  have h2 := bytesOf_length t
  have e1 : msgI k n t ++ e = k % 256 :: ((n.size : Int) % 256) :: (bytesOf n ++ ((t.size : Int) % 256 :: ((t.size : Int) / 256 % 256) :: (bytesOf t ++ e))) := by
    simp only [msgI, List.append_assoc, List.cons_append, List.nil_append]
  have e2 : ((n.size : Int) % 256).toNat = n.size := by omega
  have e3 : ((t.size : Int) % 256 + (t.size : Int) / 256 % 256 * 256).toNat = t.size := by omega
  rw [e1]
  simp only [readL]
  rw [e2, if_pos (by simp only [List.length_append]; omega), drop_app _ _ _ h1, take_app _ _ _ h1]
  simp only []
  rw [e3, if_pos (by simp only [List.length_append]; omega), take_app _ _ _ h2, strOf_bytesOf, strOf_bytesOf, show k % 256 = k by omega]
theorem parse_back (k : Int) (n t : ByteArray) (hk : 0 ≤ k ∧ k < 256) (hn : n.size < 256) (ht : t.size < 65536) (hm : mayB k n t = true) : parseR (sealI (msgI k n t)) = (k, n, t, 0) := by
  unfold parseR
  have : readL (sealI (msgI k n t)) = some (k, n, t) := readL_seal k n t hk hn ht _
  rw [this]
  exact if_pos ⟨hm, rfl⟩
theorem parse_code (x : List Int) : (parseR x).2.2.2 = 12 ∨ (parseR x).2.2.2 = 0 ∧ ∃ b, Bts b ∧ x = sealI b := by
  unfold parseR
  split
  · rename_i k n t h
    by_cases hc : mayB k n t = true ∧ sealI (msgI k n t) = x
    · rw [if_pos hc]
      exact .inr ⟨rfl, _, msgI_Bts k n t, hc.2.symm⟩
    · rw [if_neg hc]
      exact .inl rfl
  · exact .inl rfl
end Go.Proofs.YtpnnojigdhkjaaaDoor.Q
