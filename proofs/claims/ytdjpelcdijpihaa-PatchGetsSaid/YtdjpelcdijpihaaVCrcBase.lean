/- A part of the proof of the claim: what it uses of the text CrcBase. -/
import Derived.Test.YtdjpelcdijpihaaVCrcMath
namespace Go.Proofs.Ytdjpelcdijpihaa.Print
open Go.RowKit Go.Proofs.YtdjpelcdijpihaaW.PrintWords Go.Proofs.YtdjpelcdijpihaaW.PrintLast Go.Proofs.CrcMath
theorem bits_xor_u32_nat (a b : Nat) (ha : a < 4294967296) (hb : b < 4294967296) : bits .xor .u32 (a : Int) (b : Int) = ((a ^^^ b : Nat) : Int) := by
 have hx : a ^^^ b < 2 ^ 32 := Nat.xor_lt_two_pow (by omega) (by omega)
 have h1 : (BitVec.ofInt 32 (a : Int)).toNat = a := by
  rw [BitVec.ofInt_natCast, BitVec.toNat_ofNat]; exact Nat.mod_eq_of_lt (by omega)
 have h2 : (BitVec.ofInt 32 (b : Int)).toNat = b := by
  rw [BitVec.ofInt_natCast, BitVec.toNat_ofNat]; exact Nat.mod_eq_of_lt (by omega)
 show IntKind.u32.wrap ((BitVec.ofInt 32 (a : Int) ^^^ BitVec.ofInt 32 (b : Int)).toNat : Int) = _
 rw [BitVec.toNat_xor, h1, h2, IntKind.wrap_u32]
 omega
theorem bits_xor_u8_nat (a b : Nat) (ha : a < 256) (hb : b < 256) : bits .xor .u8 (a : Int) (b : Int) = ((a ^^^ b : Nat) : Int) := by
 have hx : a ^^^ b < 2 ^ 8 := Nat.xor_lt_two_pow (by omega) (by omega)
 have h1 : (BitVec.ofInt 8 (a : Int)).toNat = a := by
  rw [BitVec.ofInt_natCast, BitVec.toNat_ofNat]; exact Nat.mod_eq_of_lt (by omega)
 have h2 : (BitVec.ofInt 8 (b : Int)).toNat = b := by
  rw [BitVec.ofInt_natCast, BitVec.toNat_ofNat]; exact Nat.mod_eq_of_lt (by omega)
 show IntKind.u8.wrap ((BitVec.ofInt 8 (a : Int) ^^^ BitVec.ofInt 8 (b : Int)).toNat : Int) = _
 rw [BitVec.toNat_xor, h1, h2, IntKind.wrap_u8]
 omega
theorem tabStep_nat (n : Nat) (h : n < 4294967296) : tabStep (n : Int) = (st n : Int) := by
 unfold tabStep st
 have e : ((n : Int) / 2) = ((n / 2 : Nat) : Int) := by omega
 by_cases h1 : n % 2 = 1
 ·rw [if_pos (by omega), if_pos h1, e, show (3988292384 : Int) = ((3988292384 : Nat) : Int) from rfl, bits_xor_u32_nat _ _ (by omega) (by omega)]
 ·rw [if_neg (by omega), if_neg h1, e]
theorem tabN_nat (n : Nat) (h : n < 4294967296) : ∀ k, tabN k (n : Int) = (stn k n : Int)
 | 0 => rfl
 | k + 1 => by
  rw [tabN, stn, tabN_nat n h k]
  exact tabStep_nat _ (stn_lt h k)
theorem moreStep_nat (n : Nat) (c : UInt8) (h : n < 4294967296) : moreStep (n : Int) c = (put n c.toNat : Int) := by
 have hc := c.toNat_lt
 have hx : n % 256 ^^^ c.toNat < 256 := Nat.xor_lt_two_pow (n := 8) (by omega) (by omega)
 unfold moreStep
 rw [IntKind.wrap_u8, show (n : Int) % 256 = ((n % 256 : Nat) : Int) by omega, show (n : Int) / 256 = ((n / 256 : Nat) : Int) by omega, bits_xor_u8_nat _ _ (by omega) (by omega), Int.toNat_natCast]
 unfold tabAt
 rw [tabN_nat _ (by omega), bits_xor_u32_nat _ _ (by omega) (stn_lt (by omega) 8), put_table]
def bs (a : ByteArray) : List Nat := a.data.toList.map UInt8.toNat
theorem bs_lt (a : ByteArray) : ∀ c ∈ bs a, c < 256 := by
 intro c hc
 obtain ⟨u, _, rfl⟩ := List.mem_map.1 hc
 exact u.toNat_lt
theorem bs_length (a : ByteArray) : (bs a).length = a.size := by simp [bs]
theorem moreList_nat (l : List UInt8) : ∀ (n : Nat), n < 4294967296 → moreList (n : Int) l = (reg n (l.map UInt8.toNat) : Int) := by
 induction l with
 | nil => intro n _; rfl
 | cons c l ih =>
  intro n h
  have e : moreList (n : Int) (c :: l) = moreList (moreStep (n : Int) c) l := by simp only [moreList, List.foldl_cons]
  rw [e, moreStep_nat n c h, ih _ (put_lt h c.toNat_lt), List.map_cons, reg_cons]
def sumN (l : List Nat) : Nat := 4294967295 - reg 4294967295 l
theorem sumN_lt (l : List Nat) : sumN l < 4294967296 := by unfold sumN; omega
theorem more_eq (s : Nat) (a : ByteArray) (hs : s < 4294967296) (ha : a.size ≤ 9223372036854775807) : crc_More.f (s : Int) a = some ((4294967295 - reg (4294967295 - s) (bs a) : Nat) : Int) := by
 unfold crc_More.f
 rw [if_pos ⟨by omega, by omega, ha⟩, show (4294967295 - (s : Int)) = ((4294967295 - s : Nat) : Int) by omega, moreList_nat _ _ (by omega)]
 have := reg_lt (bs a) (x := 4294967295 - s) (by omega) (bs_lt a)
 congr 1
 show 4294967295 - (reg (4294967295 - s) (bs a) : Int) = _
 omega
theorem sum_eq (a : ByteArray) (ha : a.size ≤ 9223372036854775807) : crc_Sum.f a = some (sumN (bs a) : Int) := by
 unfold crc_Sum.f
 rw [show (0 : Int) = ((0 : Nat) : Int) from rfl, more_eq 0 a (by omega) ha]
 rfl
theorem wrap_inc {i : Int} (h0 : 0 ≤ i) (h : i < 9223372036854775807) : wrap64 (i + 1) = i + 1 := by
 unfold wrap64
 omega
theorem refStep_l0 (d : Nat) : ∀ (k : Nat) (x : Nat) (i : Int), 0 ≤ i → 8 - i = d → d < k → x < 4294967296 → dioramaref03_Step.l0 k (x : Int) i = some (stn d x : Int) := by
 induction d with
 | zero =>
  intro k x i h0 h hk hx
  obtain ⟨k, rfl⟩ : ∃ m, k = m + 1 := ⟨k - 1, by omega⟩
  simp only [dioramaref03_Step.l0]
  rw [if_neg (by omega)]
  rfl
 | succ d ih =>
  intro k x i h0 h hk hx
  obtain ⟨k, rfl⟩ : ∃ m, k = m + 1 := ⟨k - 1, by omega⟩
  simp only [dioramaref03_Step.l0]
  rw [if_pos (by omega), wrap_inc h0 (by omega), show Int.tmod (x : Int) 2 = ((x % 2 : Nat) : Int) from rfl, show Int.tdiv (x : Int) 2 = ((x / 2 : Nat) : Int) from rfl,
   show (((x / 2 : Nat) : Int) % 4294967296) = ((x / 2 : Nat) : Int) by omega, show (3988292384 : Int) = ((3988292384 : Nat) : Int) from rfl, bits_xor_u32_nat _ _ (by omega) (by omega)]
  rw [stn_add d 1]
  show _ = some (stn d (st x) : Int)
  by_cases h1 : x % 2 = 1
  ·rw [if_pos (by omega), ih k _ _ (by omega) (by omega) (by omega) (xor_lt32 (by omega) (by omega)), st, if_pos h1]
  ·rw [if_neg (by omega), ih k _ _ (by omega) (by omega) (by omega) (by omega), st, if_neg h1]
theorem refStep_eq (k : Nat) (x c : Nat) (hk : 8 < k) (hx : x < 4294967296) (hc : c < 256) : dioramaref03_Step.f k (x : Int) (c : Int) = some (put x c : Int) := by
 unfold dioramaref03_Step.f
 rw [show (c : Int) % 4294967296 = (c : Int) by omega, bits_xor_u32_nat _ _ hx (by omega)]
 exact refStep_l0 8 k _ 0 (by omega) (by omega) hk (xor_lt32 hx (by omega))
theorem bt_bs (a : ByteArray) (i : Nat) (h : i < a.size) : bt a (i : Int) = ((bs a)[i]'(by rw [bs_length]; exact h) : Nat) := by
 unfold bt
 rw [Int.toNat_natCast, dif_pos h]
 simp [bs]
 rfl
theorem refSum_l0 (a : ByteArray) (ha : a.size ≤ 9223372036854775807) (d : Nat) : ∀ (k i x : Nat), i ≤ a.size → a.size - i = d → d + 9 < k → x < 4294967296 → dioramaref03_Sum.l0 k a (x : Int) (i : Int) = some ((4294967295 - reg x ((bs a).drop i) : Nat) : Int) := by
 induction d with
 | zero =>
  intro k i x hi h hk hx
  obtain ⟨k, rfl⟩ : ∃ m, k = m + 1 := ⟨k - 1, by omega⟩
  simp only [dioramaref03_Sum.l0]
  rw [if_neg (by omega), List.drop_of_length_le (by rw [bs_length]; omega), reg_nil]
  congr 1
  omega
 | succ d ih =>
  intro k i x hi h hk hx
  obtain ⟨k, rfl⟩ : ∃ m, k = m + 1 := ⟨k - 1, by omega⟩
  have hl : i < (bs a).length := by rw [bs_length]; omega
  have hc := bs_lt a _ (List.getElem_mem hl)
  simp only [dioramaref03_Sum.l0]
  rw [if_pos (by omega), if_pos (by omega), bt_bs a i (by omega), refStep_eq k x _ (by omega) hx hc, Option.bind_some, wrap_inc (by omega) (by omega),
   show (i : Int) + 1 = ((i + 1 : Nat) : Int) by omega, ih k (i + 1) _ (by omega) (by omega) (by omega) (put_lt hx hc), List.drop_eq_getElem_cons hl, reg_cons]
theorem refSum_eq (k : Nat) (a : ByteArray) (ha : a.size ≤ 9223372036854775807) (hk : a.size + 9 < k) : dioramaref03_Sum.f k a = some (sumN (bs a) : Int) := by
 unfold dioramaref03_Sum.f
 have := refSum_l0 a ha a.size k 0 4294967295 (by omega) (by omega) hk (by omega)
 rw [List.drop_zero] at this
 exact this
end Go.Proofs.Ytdjpelcdijpihaa.Print
