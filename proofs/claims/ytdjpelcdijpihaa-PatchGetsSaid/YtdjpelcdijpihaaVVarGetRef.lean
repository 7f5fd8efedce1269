/- A part of the proof of the claim: what it uses of the text VarGetRef. -/
import Derived.Test.YtdjpelcdijpihaaVPrintG1
import Derived.Test.YtdjpelcdijpihaaVVarGet
namespace Go.Proofs.Ytdjpelcdijpihaa.PrintF
open Go.RowKit Go.Proofs.Ytdjpelcdijpihaa.Print Go.Proofs.YtdjpelcdijpihaaW.PrintWords Go.Proofs.YtdjpelcdijpihaaW.PrintLast
theorem refGet_l0 (a : ByteArray) (ha : a.size ≤ 140737488355328) (p : Nat) : ∀ (d k i n : Nat), d = a.size - (p + i) → 4 * d + 4 < k → i ≤ 9 → p + i ≤ a.size → n < 128 ^ i →
  dioramaref01_Get.l0 k a (p : Int) (n : Int) ((128 ^ i : Nat) : Int) ((p + i : Nat) : Int) = some (told a.size (gv i n ((bs a).drop (p + i)))) := by
 intro d
 induction d with
 | zero =>
  intro k i n hd hk hi hp hn
  obtain ⟨k, rfl⟩ : ∃ m, k = m + 1 := ⟨k - 1, by omega⟩
  simp only [dioramaref01_Get.l0]
  rw [if_neg (by omega), List.drop_of_length_le (by rw [bs_length]; omega)]
  rfl
 | succ d ih =>
  intro k i n hd hk hi hp hn
  obtain ⟨k, rfl⟩ : ∃ m, k = m + 4 := ⟨k - 4, by omega⟩
  obtain ⟨c, hc, hb, hdr⟩ := bt_drop a (p + i) (by omega)
  simp only [dioramaref01_Get.l0]
  rw [if_pos (by omega), if_pos (by omega), wrap_id (by omega) (by omega), hb, hdr, gv]
  have hp9 := pow9 hi
  have h63 : (128 : Nat) ^ 9 = 9223372036854775808 := by decide
  have key : dioramaref01_Get.j2 (k + 2 + 1) a (p : Int) (n : Int) ((128 ^ i : Nat) : Int) ((p + i : Nat) : Int) (c : Int) false = some (told a.size (if c = 0 ∧ 0 < i then .error 3 else if c < 128 then .ok (n + c * 128 ^ i, (bs a).drop (p + i + 1)) else gv (i + 1) (n + c % 128 * 128 ^ i) ((bs a).drop (p + i + 1)))) ∨ i = 9 ∧ 1 < c := by
   by_cases hov : i = 9 ∧ 1 < c
   ·exact .inr hov
   ·left
    have hlt9 : c % 128 * 128 ^ i ≤ 127 * 128 ^ i := Nat.mul_le_mul_right _ (by omega)
    have hsmall : n + c % 128 * 128 ^ i < 18446744073709551616 := by
     by_cases h9 : i = 9
     ·subst h9
      have : c % 128 ≤ 1 := by omega
      have := Nat.mul_le_mul_right (128 ^ 9) this
      omega
     ·have h8 : i ≤ 8 := by omega
      have : 128 ^ i ≤ 128 ^ 8 := Nat.pow_le_pow_right (by decide) h8
      have e8 : (128 : Nat) ^ 8 = 72057594037927936 := by decide
      omega
    have hw1 : IntKind.u64.wrap (Int.tmod (c : Int) 128) = ((c % 128 : Nat) : Int) := by
     rw [IntKind.wrap_u64, show Int.tmod (c : Int) 128 = ((c % 128 : Nat) : Int) from rfl]; omega
    have hw2 : IntKind.u64.wrap (((128 ^ i : Nat) : Int) * ((c % 128 : Nat) : Int)) = ((c % 128 * 128 ^ i : Nat) : Int) := by
     rw [IntKind.wrap_u64, ← Int.natCast_mul, Nat.mul_comm]
     omega
    have hw3 : IntKind.u64.wrap ((n : Int) + ((c % 128 * 128 ^ i : Nat) : Int)) = ((n + c % 128 * 128 ^ i : Nat) : Int) := by
     rw [IntKind.wrap_u64]; omega
    have j3 : dioramaref01_Get.j3 (k + 1 + 1) a (p : Int) (n : Int) ((128 ^ i : Nat) : Int) ((p + i : Nat) : Int) (c : Int) false = some (told a.size (if c < 128 then .ok (n + c * 128 ^ i, (bs a).drop (p + i + 1)) else gv (i + 1) (n + c % 128 * 128 ^ i) ((bs a).drop (p + i + 1)))) ∨ c = 0 ∧ 0 < i := by
     by_cases hz : c = 0 ∧ 0 < i
     ·exact .inr hz
     ·left
      simp only [dioramaref01_Get.j3]
      rw [if_neg (by simp), hw1, hw2, hw3]
      by_cases h128 : c < 128
      ·rw [if_pos (by omega), if_pos h128, wrap_id (by omega) (by omega), Nat.mod_eq_of_lt h128]
       simp only [told]
       rw [List.length_drop, bs_length, show a.size - (a.size - (p + i + 1)) = p + i + 1 by omega]
       simp
      ·rw [if_neg (by omega), if_neg h128, wrap_id (by omega) (by omega)]
       have hi9 : i ≠ 9 := fun h => hov ⟨h, by omega⟩
       have hw4 : IntKind.u64.wrap (((128 ^ i : Nat) : Int) * 128) = ((128 ^ (i + 1) : Nat) : Int) := by
        have : 128 ^ (i + 1) ≤ 128 ^ 9 := Nat.pow_le_pow_right (by decide) (by omega)
        rw [IntKind.wrap_u64, Nat.pow_succ]
        rw [Nat.pow_succ] at this
        omega
       rw [hw4, show ((p + i : Nat) : Int) + 1 = ((p + (i + 1) : Nat) : Int) by omega, ih (k + 1) (i + 1) _ (by omega) (by omega) (by omega) (by omega) (by rw [Nat.pow_succ]; omega)]
       rfl
    simp only [dioramaref01_Get.j2]
    rw [if_neg (by simp)]
    by_cases hz : c = 0
    ·rw [if_pos (by omega)]
     by_cases hi0 : 0 < i
     ·rw [if_pos ⟨hz, hi0⟩, show decide (((p + i : Nat) : Int) > (p : Int)) = true from decide_eq_true (by omega)]
      simp only [dioramaref01_Get.j3]
      rw [if_pos trivial]
      rfl
     ·rw [if_neg (by omega), show decide (((p + i : Nat) : Int) > (p : Int)) = false from decide_eq_false (by omega)]
      exact j3.resolve_right (by omega)
    ·rw [if_neg (by omega), if_neg (by omega)]
     exact j3.resolve_right (by omega)
  by_cases h9 : i = 9
  ·rw [if_pos (by omega)]
   by_cases h1 : 1 < c
   ·rw [if_pos (.inl ⟨h9, h1⟩), show decide ((c : Int) > 1) = true from decide_eq_true (by omega)]
    simp only [dioramaref01_Get.j2]
    rw [if_pos trivial]
    rfl
   ·rw [show decide ((c : Int) > 1) = false from decide_eq_false (by omega), key.resolve_right (by omega)]
    congr 2
    simp only [h1, and_false, false_or]
  ·rw [if_neg (by omega), key.resolve_right (by omega)]
   congr 2
   simp only [h9, false_and, false_or]
theorem refGet_eq (k : Nat) (a : ByteArray) (p : Nat) (ha : a.size ≤ 140737488355328) (hp : p ≤ a.size) (hk : 4 * a.size + 9 < k) : dioramaref01_Get.f k a (p : Int) = some (told a.size (gv 0 0 ((bs a).drop p))) := by
 obtain ⟨k, rfl⟩ : ∃ m, k = m + 1 := ⟨k - 1, by omega⟩
 unfold dioramaref01_Get.f
 rw [if_neg (by omega), show decide ((p : Int) > (a.size : Int)) = false from decide_eq_false (by omega)]
 simp only [dioramaref01_Get.j0]
 rw [if_neg (by simp)]
 exact refGet_l0 a ha p (a.size - p) k 0 0 (by omega) (by omega) (by omega) hp (by simp)
end Go.Proofs.Ytdjpelcdijpihaa.PrintF
