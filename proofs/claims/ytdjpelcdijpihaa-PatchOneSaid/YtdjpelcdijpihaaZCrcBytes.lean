/- A part of the proof of the claim: what it uses of the text CrcBytes. -/
import Derived.Test.YtdjpelcdijpihaaZCrcBase
namespace Go.Proofs.Ytdjpelcdijpihaa.Pure
open Go.RowKit Go.Proofs.Ytdjpelcdijpihaa.Print Go.Proofs.YtdjpelcdijpihaaW.PrintWords Go.Proofs.YtdjpelcdijpihaaW.PrintLast
def le4 (n : Int) : List Int := [n % 256, n / 256 % 256, n / 65536 % 256, n / 16777216 % 256]
theorem or_join (x y i : Nat) (hi : i ≤ 32) (hx : x < 2 ^ i) (hy : y * 2 ^ i < 2 ^ 32) : bits .or .u32 (x : Int) ((y * 2 ^ i : Nat) : Int) = ((x + y * 2 ^ i : Nat) : Int) := by
 have hx2 : x < 2 ^ 32 := Nat.lt_of_lt_of_le hx (Nat.pow_le_pow_right (by decide) hi)
 rw [(bits_nat .u32 32 (by decide) (fun n h0 h1 => by rw [IntKind.wrap_u32]; omega) x _ hx2 hy).2, Nat.or_comm, Nat.mul_comm y, ← Nat.two_pow_add_eq_or_of_lt hx, Nat.add_comm]
theorem get_four (a b c d : Nat) (ha : a < 256) (hb : b < 256) (hc : c < 256) (hd : d < 256) :
  bits .or .u32 (bits .or .u32 (bits .or .u32 ((a : Int) % 4294967296) ((((b : Int) % 4294967296) * 256) % 4294967296)) ((((c : Int) % 4294967296) * 65536) % 4294967296)) ((((d : Int) % 4294967296) * 16777216) % 4294967296)
   = ((a + 256 * b + 65536 * c + 16777216 * d : Nat) : Int) := by
 have e0 : (a : Int) % 4294967296 = (a : Int) := by omega
 have e1 : (((b : Int) % 4294967296) * 256) % 4294967296 = ((b * 2 ^ 8 : Nat) : Int) := by omega
 have e2 : (((c : Int) % 4294967296) * 65536) % 4294967296 = ((c * 2 ^ 16 : Nat) : Int) := by omega
 have e3 : (((d : Int) % 4294967296) * 16777216) % 4294967296 = ((d * 2 ^ 24 : Nat) : Int) := by omega
 rw [e0, e1, e2, e3, or_join _ _ 8 (by decide) (by omega) (by omega), or_join _ _ 16 (by decide) (by omega) (by omega), or_join _ _ 24 (by decide) (by omega) (by omega)]
 omega
theorem bt_nat (a : ByteArray) (i : Int) : ∃ n : Nat, bt a i = n ∧ n < 256 := by
 have := bt_range a i
 exact ⟨(bt a i).toNat, by omega, by omega⟩
theorem get_eq (a : ByteArray) (h : a.size = 4) : crc_Get.f a = some (bt a 0 + 256 * bt a 1 + 65536 * bt a 2 + 16777216 * bt a 3, true) := by
 obtain ⟨x0, h0, l0⟩ := bt_nat a 0
 obtain ⟨x1, h1, l1⟩ := bt_nat a 1
 obtain ⟨x2, h2, l2⟩ := bt_nat a 2
 obtain ⟨x3, h3, l3⟩ := bt_nat a 3
 unfold crc_Get.f
 rw [if_pos (by omega), if_pos (by omega), if_pos (by omega), if_pos (by omega), if_pos (by omega), h0, h1, h2, h3, get_four _ _ _ _ l0 l1 l2 l3]
 congr 2
theorem get_none (a : ByteArray) (h : a.size ≠ 4) : crc_Get.f a = some (0, false) := by
 unfold crc_Get.f
 rw [if_neg (by omega)]
theorem put_get (a : ByteArray) (h : a.size = 4) : strOfNums (le4 (bt a 0 + 256 * bt a 1 + 65536 * bt a 2 + 16777216 * bt a 3)) = a := by
 have r0 := bt_range a 0
 have r1 := bt_range a 1
 have r2 := bt_range a 2
 have r3 := bt_range a 3
 have e : le4 (bt a 0 + 256 * bt a 1 + 65536 * bt a 2 + 16777216 * bt a 3) = [bt a 0, bt a 1, bt a 2, bt a 3] := by
  simp only [le4, List.cons.injEq, and_true]
  omega
 rw [e]
 obtain ⟨⟨l⟩⟩ := a
 match l, h with
 | [c0, c1, c2, c3], _ =>
  have e0 : bt ⟨⟨[c0, c1, c2, c3]⟩⟩ 0 = (c0.toNat : Int) := rfl
  have e1 : bt ⟨⟨[c0, c1, c2, c3]⟩⟩ 1 = (c1.toNat : Int) := rfl
  have e2 : bt ⟨⟨[c0, c1, c2, c3]⟩⟩ 2 = (c2.toNat : Int) := rfl
  have e3 : bt ⟨⟨[c0, c1, c2, c3]⟩⟩ 3 = (c3.toNat : Int) := rfl
  rw [e0, e1, e2, e3]
  simp [strOfNums]
end Go.Proofs.Ytdjpelcdijpihaa.Pure
