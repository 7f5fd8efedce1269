/- A part of the proof of the claim: what it uses of the text VarGet. -/
import Derived.Test.YtdjpelcdijpihaaVPrintF2
import Derived.Test.YtdjpelcdijpihaaVCrcBytes
namespace Go.Proofs.Ytdjpelcdijpihaa.PrintF
open Go.RowKit Go.Proofs.Ytdjpelcdijpihaa.Print Go.Proofs.YtdjpelcdijpihaaW.PrintWords Go.Proofs.YtdjpelcdijpihaaW.PrintLast
def gv (i n : Nat) : List Nat → Except Int (Nat × List Nat)
 | [] => .error 2
 | c :: r => if i = 9 ∧ 1 < c ∨ c = 0 ∧ 0 < i then .error 3 else if c < 128 then .ok (n + c * 128 ^ i, r) else gv (i + 1) (n + c % 128 * 128 ^ i) r
def told (size : Nat) : Except Int (Nat × List Nat) → Int × Int × Int
 | .error e => (0, 0, e)
 | .ok (n, r) => (n, ((size - r.length : Nat) : Int), 0)
theorem wrap_id {x : Int} (h0 : -9223372036854775808 ≤ x) (h1 : x ≤ 9223372036854775807) : wrap64 x = x := by
 unfold wrap64
 omega
theorem bt_drop (a : ByteArray) (i : Nat) (h : i < a.size) : ∃ c : Nat, c < 256 ∧ bt a (i : Int) = (c : Int) ∧ (bs a).drop i = c :: (bs a).drop (i + 1) := by
 have h' : i < (bs a).length := by rw [bs_length]; exact h
 exact ⟨_, bs_lt a _ (List.getElem_mem h'), bt_bs a i h, List.drop_eq_getElem_cons h'⟩
theorem pow9 {i : Nat} (h : i ≤ 9) : 128 ^ i ≤ 128 ^ 9 := Nat.pow_le_pow_right (by decide) h
theorem and127 (c : Nat) (h : c < 256) : bits .and .u8 (c : Int) 127 = ((c % 128 : Nat) : Int) := by
 have := bits_mask .u8 8 (by decide) wraps_u8 7 (by decide) (c : Int) (by omega) (by omega)
 rw [show (2 : Int) ^ 7 - 1 = 127 from rfl] at this
 rw [this]
 omega
theorem shl_u64 (x i : Nat) (hi : i ≤ 9) (hx : x * 128 ^ i < 18446744073709551616) : shl .u64 (x : Int) (wrap64 (7 * (i : Int))) = ((x * 128 ^ i : Nat) : Int) := by
 rw [wrap_id (by omega) (by omega)]
 have e : (128 : Nat) ^ i = 2 ^ (7 * i) := by rw [Nat.pow_mul]
 have hb : IntKind.u64.bits = 64 := rfl
 unfold shl
 rw [hb, show (7 * (i : Int)).toNat = 7 * i by omega, Nat.min_eq_left (by omega), IntKind.wrap_u64, show (2 : Int) ^ (7 * i) = ((2 ^ (7 * i) : Nat) : Int) by simp, ← e, ← Int.natCast_mul]
 omega
theorem or_join64 (x y i : Nat) (hi : i ≤ 9) (hx : x < 128 ^ i) (hy : y * 128 ^ i < 18446744073709551616) : bits .or .u64 (x : Int) ((y * 128 ^ i : Nat) : Int) = ((x + y * 128 ^ i : Nat) : Int) := by
 have h9 := pow9 hi
 have h63 : (128 : Nat) ^ 9 = 9223372036854775808 := by decide
 have e : (128 : Nat) ^ i = 2 ^ (7 * i) := by rw [Nat.pow_mul]
 rw [bits_or_u64_nat _ _ (by omega) hy, Nat.or_comm, Nat.mul_comm y, e, ← Nat.two_pow_add_eq_or_of_lt (by rw [← e]; exact hx), Nat.add_comm]
theorem varGet_l0 (a : ByteArray) (ha : a.size ≤ 140737488355328) (p : Nat) : ∀ (d k i n : Nat), d = a.size - (p + i) → 2 * d + 2 < k → i ≤ 9 → p + i ≤ a.size → n < 128 ^ i →
  varint_Get.l0 k a (p : Int) (n : Int) (i : Int) = some (told a.size (gv i n ((bs a).drop (p + i)))) := by
 intro d
 induction d with
 | zero =>
  intro k i n hd hk hi hp hn
  obtain ⟨k, rfl⟩ : ∃ m, k = m + 1 := ⟨k - 1, by omega⟩
  simp only [varint_Get.l0]
  rw [wrap_id (by omega) (by omega), if_pos (by omega), List.drop_of_length_le (by rw [bs_length]; omega)]
  rfl
 | succ d ih =>
  intro k i n hd hk hi hp hn
  obtain ⟨k, rfl⟩ : ∃ m, k = m + 2 := ⟨k - 2, by omega⟩
  obtain ⟨c, hc, hb, hdr⟩ := bt_drop a (p + i) (by omega)
  have hpi : (p : Int) + (i : Int) = ((p + i : Nat) : Int) := by omega
  simp only [varint_Get.l0]
  rw [wrap_id (by omega) (by omega), if_neg (by omega), if_pos (by omega), if_pos (by omega), hpi, hb, hdr, gv]
  have h63 : (128 : Nat) ^ 9 = 9223372036854775808 := by decide
  have hp9 := pow9 hi
  have ht : varint_Get.j2 (k + 1) a (p : Int) (n : Int) (i : Int) (c : Int) true = some (told a.size (.error 3)) := by
   simp only [varint_Get.j2]
   rw [if_pos trivial]
   rfl
  have key : ¬ (i = 9 ∧ 1 < c) → varint_Get.j2 (k + 1) a (p : Int) (n : Int) (i : Int) (c : Int) false = some (told a.size (if c < 128 then .ok (n + c * 128 ^ i, (bs a).drop (p + i + 1)) else gv (i + 1) (n + c % 128 * 128 ^ i) ((bs a).drop (p + i + 1)))) := by
   intro hov
   have hlt9 : c % 128 * 128 ^ i ≤ 127 * 128 ^ i := Nat.mul_le_mul_right _ (by omega)
   have hsmall : c % 128 * 128 ^ i < 18446744073709551616 := by
    by_cases h9 : i = 9
    ·subst h9
     have : c % 128 ≤ 1 := by omega
     have := Nat.mul_le_mul_right (128 ^ 9) this
     omega
    ·have h8 : i ≤ 8 := by omega
     have : 128 ^ i ≤ 128 ^ 8 := Nat.pow_le_pow_right (by decide) h8
     have e8 : (128 : Nat) ^ 8 = 72057594037927936 := by decide
     omega
   simp only [varint_Get.j2]
   rw [if_neg (by simp), if_pos (by rw [wrap_id (by omega) (by omega)]; omega), and127 c hc, show IntKind.u64.wrap ((c % 128 : Nat) : Int) = ((c % 128 : Nat) : Int) by rw [IntKind.wrap_u64]; omega, shl_u64 _ _ hi hsmall, or_join64 _ _ _ hi hn hsmall]
   by_cases h128 : c < 128
   ·rw [if_pos (by omega), if_pos h128, hpi, wrap_id (x := ((p + i : Nat) : Int)) (by omega) (by omega), wrap_id (by omega) (by omega), Nat.mod_eq_of_lt h128]
    simp only [told]
    rw [List.length_drop, bs_length, show a.size - (a.size - (p + i + 1)) = p + i + 1 by omega]
    simp
   ·rw [if_neg (by omega), if_neg h128, wrap_id (by omega) (by omega)]
    have hi9 : i ≠ 9 := fun h => hov ⟨h, by omega⟩
    rw [show (i : Int) + 1 = ((i + 1 : Nat) : Int) by omega, ih k (i + 1) _ (by omega) (by omega) (by omega) (by omega) (by rw [Nat.pow_succ]; omega)]
    rfl
  by_cases h9 : i = 9
  ·rw [if_pos (by omega)]
   by_cases h1 : 1 < c
   ·rw [if_pos (by omega), if_pos (.inl ⟨h9, h1⟩), ht]
   ·rw [if_neg (by omega)]
    by_cases hz : c = 0
    ·rw [if_pos (by omega), show decide ((i : Int) > 0) = true from decide_eq_true (by omega), ht, if_pos (.inr ⟨hz, by omega⟩)]
    ·rw [if_neg (by omega), key (by omega), if_neg (show ¬ (i = 9 ∧ 1 < c ∨ c = 0 ∧ 0 < i) by omega)]
  ·rw [if_neg (by omega)]
   by_cases hz : c = 0
   ·rw [if_pos (by omega)]
    by_cases hi0 : 0 < i
    ·rw [show decide ((i : Int) > 0) = true from decide_eq_true (by omega), ht, if_pos (.inr ⟨hz, hi0⟩)]
    ·rw [show decide ((i : Int) > 0) = false from decide_eq_false (by omega), key (by omega), if_neg (show ¬ (i = 9 ∧ 1 < c ∨ c = 0 ∧ 0 < i) by omega)]
   ·rw [if_neg (by omega), key (by omega), if_neg (show ¬ (i = 9 ∧ 1 < c ∨ c = 0 ∧ 0 < i) by omega)]
theorem varGet_eq (k : Nat) (a : ByteArray) (p : Nat) (ha : a.size ≤ 140737488355328) (hp : p ≤ a.size) (hk : 2 * a.size + 9 < k) : varint_Get.f k a (p : Int) = some (told a.size (gv 0 0 ((bs a).drop p))) := by
 obtain ⟨k, rfl⟩ : ∃ m, k = m + 1 := ⟨k - 1, by omega⟩
 unfold varint_Get.f
 rw [if_neg (by omega), show decide ((p : Int) > (a.size : Int)) = false from decide_eq_false (by omega)]
 simp only [varint_Get.j0]
 rw [if_neg (by simp)]
 exact varGet_l0 a ha p (a.size - p) k 0 0 (by omega) (by omega) (by omega) hp (by simp)
end Go.Proofs.Ytdjpelcdijpihaa.PrintF
