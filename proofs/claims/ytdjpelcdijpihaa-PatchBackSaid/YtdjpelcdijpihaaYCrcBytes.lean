/- A part of the proof of the claim: what it uses of the text CrcBytes. -/
import Derived.Test.YtdjpelcdijpihaaYCrcBase
namespace Go.Proofs.Ytdjpelcdijpihaa.Pure
open Go.RowKit Go.Proofs.Ytdjpelcdijpihaa.Print Go.Proofs.YtdjpelcdijpihaaW.PrintWords Go.Proofs.YtdjpelcdijpihaaW.PrintLast
def le4 (n : Int) : List Int := [n % 256, n / 256 % 256, n / 65536 % 256, n / 16777216 % 256]
theorem or_join (x y i : Nat) (hi : i ≤ 32) (hx : x < 2 ^ i) (hy : y * 2 ^ i < 2 ^ 32) : bits .or .u32 (x : Int) ((y * 2 ^ i : Nat) : Int) = ((x + y * 2 ^ i : Nat) : Int) := by
 have hx2 : x < 2 ^ 32 := Nat.lt_of_lt_of_le hx (Nat.pow_le_pow_right (by decide) hi)
 rw [(bits_nat .u32 32 (by decide) (fun n h0 h1 => by rw [IntKind.wrap_u32]; omega) x _ hx2 hy).2, Nat.or_comm, Nat.mul_comm y, ← Nat.two_pow_add_eq_or_of_lt hx, Nat.add_comm]
theorem get_four (a b c d : Nat) (ha : a < 256) (hb : b < 256) (hc : c < 256) (hd : d < 256) :
  bits .or .u32 (bits .or .u32 (bits .or .u32 ((a : Int) % 4294967296) ((((b : Int) % 4294967296) * 256) % 4294967296)) ((((c : Int) % 4294967296) * 65536) % 4294967296)) ((((d : Int) % 4294967296) * 16777216) % 4294967296)
   = ((a + 256 * b + 65536 * c + 16777216 * d : Nat) : Int) := by
 have e0 : (a : Int) % 4294967296 = (a : Int) := by omega
 have e1 : (((b : Int) % 4294967296) * 256) % 4294967296 = ((b * 2 ^ 8 : Nat) : Int) := by omega
 have e2 : (((c : Int) % 4294967296) * 65536) % 4294967296 = ((c * 2 ^ 16 : Nat) : Int) := by omega
 have e3 : (((d : Int) % 4294967296) * 16777216) % 4294967296 = ((d * 2 ^ 24 : Nat) : Int) := by omega
 rw [e0, e1, e2, e3, or_join _ _ 8 (by decide) (by omega) (by omega), or_join _ _ 16 (by decide) (by omega) (by omega), or_join _ _ 24 (by decide) (by omega) (by omega)]
 omega
theorem bt_nat (a : ByteArray) (i : Int) : ∃ n : Nat, bt a i = n ∧ n < 256 := by
 have := bt_range a i
 exact ⟨(bt a i).toNat, by omega, by omega⟩
theorem get_eq (a : ByteArray) (h : a.size = 4) : crc_Get.f a = some (bt a 0 + 256 * bt a 1 + 65536 * bt a 2 + 16777216 * bt a 3, true) := by
 obtain ⟨x0, h0, l0⟩ := bt_nat a 0
 obtain ⟨x1, h1, l1⟩ := bt_nat a 1
 obtain ⟨x2, h2, l2⟩ := bt_nat a 2
 obtain ⟨x3, h3, l3⟩ := bt_nat a 3
 unfold crc_Get.f
 rw [if_pos (by omega), if_pos (by omega), if_pos (by omega), if_pos (by omega), if_pos (by omega), h0, h1, h2, h3, get_four _ _ _ _ l0 l1 l2 l3]
 congr 2
theorem get_none (a : ByteArray) (h : a.size ≠ 4) : crc_Get.f a = some (0, false) := by
 unfold crc_Get.f
 rw [if_neg (by omega)]
theorem bt_strOfNums (xs : List Int) (i : Nat) (h : i < xs.length) (hx : 0 ≤ xs[i] ∧ xs[i] < 256) : bt (strOfNums xs) (i : Int) = xs[i] := by
 unfold bt
 rw [Int.toNat_natCast, dif_pos (by rw [strOfNums_size]; exact h)]
 show ((((xs.map fun n => UInt8.ofNat n.toNat).toArray)[i]'(by simpa using h)).toNat : Int) = _
 simp only [List.getElem_toArray, List.getElem_map, UInt8.toNat_ofNat']
 omega
theorem le4_range (n : Int) : ∀ x ∈ le4 n, 0 ≤ x ∧ x < 256 := by
 intro x hx
 simp only [le4, List.mem_cons, List.not_mem_nil, or_false] at hx
 omega
theorem get_put (n : Int) (h : 0 ≤ n ∧ n ≤ 4294967295) : crc_Get.f (strOfNums (le4 n)) = some (n, true) := by
 rw [get_eq _ (by rw [strOfNums_size]; rfl)]
 have b : ∀ (i : Nat) (hi : i < (le4 n).length), bt (strOfNums (le4 n)) (i : Int) = (le4 n)[i] := fun i hi => bt_strOfNums _ i hi (le4_range n _ (List.getElem_mem hi))
 have b0 : bt (strOfNums (le4 n)) 0 = n % 256 := b 0 (by simp [le4])
 have b1 : bt (strOfNums (le4 n)) 1 = n / 256 % 256 := b 1 (by simp [le4])
 have b2 : bt (strOfNums (le4 n)) 2 = n / 65536 % 256 := b 2 (by simp [le4])
 have b3 : bt (strOfNums (le4 n)) 3 = n / 16777216 % 256 := b 3 (by simp [le4])
 rw [b0, b1, b2, b3]
 congr 2
 omega
end Go.Proofs.Ytdjpelcdijpihaa.Pure
