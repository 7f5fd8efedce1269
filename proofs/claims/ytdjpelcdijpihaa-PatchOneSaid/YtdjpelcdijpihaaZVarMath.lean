/- A part of the proof of the claim: what it uses of the text VarMath. -/
import Derived.Test.YtdjpelcdijpihaaZPrintF7
import Derived.Test.YtdjpelcdijpihaaZCrcBase
namespace Go.Proofs.Ytdjpelcdijpihaa.PrintF
open Go.RowKit Go.Proofs.Ytdjpelcdijpihaa.Print Go.Proofs.YtdjpelcdijpihaaW.PrintWords Go.Proofs.YtdjpelcdijpihaaW.PrintLast
def vbN : Nat → Nat → List Nat
 | 0, _ => []
 | k + 1, n => if n < 128 then [n] else (128 + n % 128) :: vbN k (n / 128)
def vb (n : Nat) : List Nat := vbN 10 n
def ints (l : List Nat) : List Int := l.map Int.ofNat
theorem vbN_lt : ∀ k n, ∀ c ∈ vbN k n, c < 256
 | 0, _, c, h => by simp [vbN] at h
 | k + 1, n, c, h => by
  unfold vbN at h
  split at h
  ·simp at h; omega
  ·simp only [List.mem_cons] at h
   rcases h with rfl | h
   ·omega
   ·exact vbN_lt k _ c h
theorem vbN_len : ∀ k n, (vbN k n).length ≤ k
 | 0, _ => by simp [vbN]
 | k + 1, n => by
  unfold vbN
  split
  ·simp
  ·have := vbN_len k (n / 128); simp; omega
theorem vb_lt (n : Nat) : ∀ c ∈ vb n, c < 256 := vbN_lt 10 n
theorem vb_len (n : Nat) : (vb n).length ≤ 10 := vbN_len 10 n
theorem bits_or_u8_128 (x : Nat) : bits .or .u8 ((x : Int) % 256) 128 = ((128 + x % 128 : Nat) : Int) := by
 have hx : x % 256 < 2 ^ 8 := Nat.mod_lt _ (by decide)
 rw [show (x : Int) % 256 = ((x % 256 : Nat) : Int) by omega, show (128 : Int) = ((128 : Nat) : Int) from rfl,
  (bits_nat .u8 8 (by decide) (fun n h0 h1 => by rw [IntKind.wrap_u8]; omega) (x % 256) 128 hx (by decide)).2]
 congr 1
 apply Nat.eq_of_testBit_eq
 intro i
 rw [Nat.testBit_or, show (128 : Nat) + x % 128 = 2 ^ 7 * 1 + x % 128 by omega, Nat.testBit_two_pow_mul_add _ (Nat.mod_lt _ (by decide)), show (256 : Nat) = 2 ^ 8 from rfl, show (128 : Nat) = 2 ^ 7 from rfl, Nat.testBit_mod_two_pow, Nat.testBit_two_pow, Nat.testBit_mod_two_pow]
 by_cases h7 : i < 7
 ·simp [h7, show i < 8 by omega, show ¬ 7 = i by omega]
 ·by_cases h8 : i = 7
  ·subst h8; simp
  ·simp [h7, show ¬ i < 8 by omega, show ¬ 7 = i by omega]
   exact Nat.testBit_lt_two_pow (Nat.one_lt_two_pow (by omega))
theorem varPut_l0 : ∀ (m n : Nat) (acc : List Int), n < 128 ^ (m + 1) → acc.length + m ≤ 100 → varint_Put.l0 (m + 1) (n : Int) acc = some (strOfNums (acc ++ ints (vbN (m + 1) n)))
 | 0, n, acc, h, ha => by
  simp only [varint_Put.l0]
  have h0 : n < 128 := by simpa using h
  rw [if_neg (by omega), if_pos (by omega)]
  have : (n : Int) % 256 = n := by omega
  simp [vbN, ints, h0, this]
 | m + 1, n, acc, h, ha => by
  rw [varint_Put.l0]
  unfold vbN
  by_cases h1 : n < 128
  ·rw [if_neg (by omega), if_pos (by omega), if_pos h1]
   have : (n : Int) % 256 = n := by omega
   simp [ints, this]
  ·rw [if_pos (by omega), if_pos (by omega), if_neg h1, bits_or_u8_128, show (n : Int) / 128 = ((n / 128 : Nat) : Int) by omega,
    varPut_l0 m (n / 128) _ (by rw [Nat.pow_succ] at h; omega) (by simp; omega)]
   simp [ints]
theorem varPut_eq (n : Nat) (h : n < 18446744073709551616) : varint_Put.f 10 (n : Int) = some (strOfNums (ints (vb n))) := by
 unfold varint_Put.f
 exact varPut_l0 9 n [] (by
  have : (18446744073709551616 : Nat) ≤ 128 ^ (9 + 1) := by decide
  omega) (by simp)
end Go.Proofs.Ytdjpelcdijpihaa.PrintF
