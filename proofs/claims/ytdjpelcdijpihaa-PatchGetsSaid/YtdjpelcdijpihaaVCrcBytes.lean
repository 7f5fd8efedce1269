/- A part of the proof of the claim: what it uses of the texts VarMath, CrcBytes. -/
import Derived.Test.YtdjpelcdijpihaaVPrintF7
import Derived.Test.YtdjpelcdijpihaaVCrcBase
namespace Go.Proofs.Ytdjpelcdijpihaa.PrintF
open Go.RowKit Go.Proofs.Ytdjpelcdijpihaa.Print Go.Proofs.YtdjpelcdijpihaaW.PrintWords Go.Proofs.YtdjpelcdijpihaaW.PrintLast
def vbN : Nat → Nat → List Nat
 | 0, _ => []
 | k + 1, n => if n < 128 then [n] else (128 + n % 128) :: vbN k (n / 128)
def vb (n : Nat) : List Nat := vbN 10 n
def ints (l : List Nat) : List Int := l.map Int.ofNat
theorem vbN_lt : ∀ k n, ∀ c ∈ vbN k n, c < 256
 | 0, _, c, h => by simp [vbN] at h
 | k + 1, n, c, h => by
  unfold vbN at h
  split at h
  ·simp at h; omega
  ·simp only [List.mem_cons] at h
   rcases h with rfl | h
   ·omega
   ·exact vbN_lt k _ c h
theorem vbN_len : ∀ k n, (vbN k n).length ≤ k
 | 0, _ => by simp [vbN]
 | k + 1, n => by
  unfold vbN
  split
  ·simp
  ·have := vbN_len k (n / 128); simp; omega
theorem vb_lt (n : Nat) : ∀ c ∈ vb n, c < 256 := vbN_lt 10 n
theorem vb_len (n : Nat) : (vb n).length ≤ 10 := vbN_len 10 n
theorem bits_or_u8_128 (x : Nat) : bits .or .u8 ((x : Int) % 256) 128 = ((128 + x % 128 : Nat) : Int) := by
 have hx : x % 256 < 2 ^ 8 := Nat.mod_lt _ (by decide)
 rw [show (x : Int) % 256 = ((x % 256 : Nat) : Int) by omega, show (128 : Int) = ((128 : Nat) : Int) from rfl,
  (bits_nat .u8 8 (by decide) (fun n h0 h1 => by rw [IntKind.wrap_u8]; omega) (x % 256) 128 hx (by decide)).2]
 congr 1
 apply Nat.eq_of_testBit_eq
 intro i
 rw [Nat.testBit_or, show (128 : Nat) + x % 128 = 2 ^ 7 * 1 + x % 128 by omega, Nat.testBit_two_pow_mul_add _ (Nat.mod_lt _ (by decide)), show (256 : Nat) = 2 ^ 8 from rfl, show (128 : Nat) = 2 ^ 7 from rfl, Nat.testBit_mod_two_pow, Nat.testBit_two_pow, Nat.testBit_mod_two_pow]
 by_cases h7 : i < 7
 ·simp [h7, show i < 8 by omega, show ¬ 7 = i by omega]
 ·by_cases h8 : i = 7
  ·subst h8; simp
  ·simp [h7, show ¬ i < 8 by omega, show ¬ 7 = i by omega]
   exact Nat.testBit_lt_two_pow (Nat.one_lt_two_pow (by omega))
theorem varPut_l0 : ∀ (m n : Nat) (acc : List Int), n < 128 ^ (m + 1) → acc.length + m ≤ 100 → varint_Put.l0 (m + 1) (n : Int) acc = some (strOfNums (acc ++ ints (vbN (m + 1) n)))
 | 0, n, acc, h, ha => by
  simp only [varint_Put.l0]
  have h0 : n < 128 := by simpa using h
  rw [if_neg (by omega), if_pos (by omega)]
  have : (n : Int) % 256 = n := by omega
  simp [vbN, ints, h0, this]
 | m + 1, n, acc, h, ha => by
  rw [varint_Put.l0]
  unfold vbN
  by_cases h1 : n < 128
  ·rw [if_neg (by omega), if_pos (by omega), if_pos h1]
   have : (n : Int) % 256 = n := by omega
   simp [ints, this]
  ·rw [if_pos (by omega), if_pos (by omega), if_neg h1, bits_or_u8_128, show (n : Int) / 128 = ((n / 128 : Nat) : Int) by omega,
    varPut_l0 m (n / 128) _ (by rw [Nat.pow_succ] at h; omega) (by simp; omega)]
   simp [ints]
theorem varPut_eq (n : Nat) (h : n < 18446744073709551616) : varint_Put.f 10 (n : Int) = some (strOfNums (ints (vb n))) := by
 unfold varint_Put.f
 exact varPut_l0 9 n [] (by
  have : (18446744073709551616 : Nat) ≤ 128 ^ (9 + 1) := by decide
  omega) (by simp)
end Go.Proofs.Ytdjpelcdijpihaa.PrintF
namespace Go.Proofs.Ytdjpelcdijpihaa.Pure
open Go.RowKit Go.Proofs.Ytdjpelcdijpihaa.Print Go.Proofs.YtdjpelcdijpihaaW.PrintWords Go.Proofs.YtdjpelcdijpihaaW.PrintLast
def le4 (n : Int) : List Int := [n % 256, n / 256 % 256, n / 65536 % 256, n / 16777216 % 256]
theorem refPut_eq (k : Nat) (n : Int) (h : 0 ≤ n ∧ n ≤ 4294967295) (hk : 5 ≤ k) : dioramaref03_Put.f k n = some (strOfNums (le4 n)) := by
 obtain ⟨k, rfl⟩ : ∃ m, k = m + 5 := ⟨k - 5, by omega⟩
 obtain ⟨m, rfl⟩ := Int.eq_ofNat_of_zero_le h.1
 have hm : m ≤ 4294967295 := by omega
 have d : ∀ (x : Nat), x ≤ 4294967295 → Int.tdiv (x : Int) 256 % 4294967296 = ((x / 256 : Nat) : Int) := by
  intro x hx
  rw [show Int.tdiv (x : Int) 256 = ((x / 256 : Nat) : Int) from rfl]
  omega
 have t : ∀ (x : Nat), Int.tmod (x : Int) 256 % 256 = ((x % 256 : Nat) : Int) := by
  intro x
  rw [show Int.tmod (x : Int) 256 = ((x % 256 : Nat) : Int) from rfl]
  omega
 unfold dioramaref03_Put.f
 simp only [dioramaref03_Put.l0]
 rw [if_pos (by decide), if_pos (by simp), d _ hm, t, show wrap64 (0 + 1) = 1 by unfold wrap64; omega, if_pos (by decide), if_pos (by simp), d _ (by omega), t, show wrap64 (1 + 1) = 2 by unfold wrap64; omega, if_pos (by decide), if_pos (by simp),
  d _ (by omega), t, show wrap64 (2 + 1) = 3 by unfold wrap64; omega, if_pos (by decide), if_pos (by simp), d _ (by omega), t, show wrap64 (3 + 1) = 4 by unfold wrap64; omega, if_neg (by decide)]
 congr 2
 simp only [le4, List.nil_append, List.cons_append, List.cons.injEq, and_true]
 omega
theorem or_join (x y i : Nat) (hi : i ≤ 32) (hx : x < 2 ^ i) (hy : y * 2 ^ i < 2 ^ 32) : bits .or .u32 (x : Int) ((y * 2 ^ i : Nat) : Int) = ((x + y * 2 ^ i : Nat) : Int) := by
 have hx2 : x < 2 ^ 32 := Nat.lt_of_lt_of_le hx (Nat.pow_le_pow_right (by decide) hi)
 rw [(bits_nat .u32 32 (by decide) (fun n h0 h1 => by rw [IntKind.wrap_u32]; omega) x _ hx2 hy).2, Nat.or_comm, Nat.mul_comm y, ← Nat.two_pow_add_eq_or_of_lt hx, Nat.add_comm]
theorem get_four (a b c d : Nat) (ha : a < 256) (hb : b < 256) (hc : c < 256) (hd : d < 256) :
  bits .or .u32 (bits .or .u32 (bits .or .u32 ((a : Int) % 4294967296) ((((b : Int) % 4294967296) * 256) % 4294967296)) ((((c : Int) % 4294967296) * 65536) % 4294967296)) ((((d : Int) % 4294967296) * 16777216) % 4294967296)
   = ((a + 256 * b + 65536 * c + 16777216 * d : Nat) : Int) := by
 have e0 : (a : Int) % 4294967296 = (a : Int) := by omega
 have e1 : (((b : Int) % 4294967296) * 256) % 4294967296 = ((b * 2 ^ 8 : Nat) : Int) := by omega
 have e2 : (((c : Int) % 4294967296) * 65536) % 4294967296 = ((c * 2 ^ 16 : Nat) : Int) := by omega
 have e3 : (((d : Int) % 4294967296) * 16777216) % 4294967296 = ((d * 2 ^ 24 : Nat) : Int) := by omega
 rw [e0, e1, e2, e3, or_join _ _ 8 (by decide) (by omega) (by omega), or_join _ _ 16 (by decide) (by omega) (by omega), or_join _ _ 24 (by decide) (by omega) (by omega)]
 omega
theorem bt_nat (a : ByteArray) (i : Int) : ∃ n : Nat, bt a i = n ∧ n < 256 := by
 have := bt_range a i
 exact ⟨(bt a i).toNat, by omega, by omega⟩
theorem get_eq (a : ByteArray) (h : a.size = 4) : crc_Get.f a = some (bt a 0 + 256 * bt a 1 + 65536 * bt a 2 + 16777216 * bt a 3, true) := by
 obtain ⟨x0, h0, l0⟩ := bt_nat a 0
 obtain ⟨x1, h1, l1⟩ := bt_nat a 1
 obtain ⟨x2, h2, l2⟩ := bt_nat a 2
 obtain ⟨x3, h3, l3⟩ := bt_nat a 3
 unfold crc_Get.f
 rw [if_pos (by omega), if_pos (by omega), if_pos (by omega), if_pos (by omega), if_pos (by omega), h0, h1, h2, h3, get_four _ _ _ _ l0 l1 l2 l3]
 congr 2
theorem get_none (a : ByteArray) (h : a.size ≠ 4) : crc_Get.f a = some (0, false) := by
 unfold crc_Get.f
 rw [if_neg (by omega)]
end Go.Proofs.Ytdjpelcdijpihaa.Pure
