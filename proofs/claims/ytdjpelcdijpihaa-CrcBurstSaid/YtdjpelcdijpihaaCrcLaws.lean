/- The pure statements of the four laws CrcSums, CrcParts, CrcPuts and CrcAdds are true: for all texts within the sizes that the rows give. -/
import Derived.Test.YtdjpelcdijpihaaCrcPure
namespace Go.Proofs.Ytdjpelcdijpihaa.Pure
open Go.RowKit Go.Proofs.Ytdjpelcdijpihaa.Print Go.Proofs.YtdjpelcdijpihaaW.PrintWords Go.Proofs.YtdjpelcdijpihaaW.PrintLast
theorem CrcSums : dioramalaw03_CrcSums.Pure := by
  intro a ha
  refine ⟨(a.size + 10) + 1, ?_⟩
  have hj : ∀ x, dioramalaw03_CrcSums.j0 ((a.size + 10) + 1) a x = some true := by
    intro x
    simp only [dioramalaw03_CrcSums.j0]
    cases x with
    | true => rw [if_pos rfl, crc_awake]; rfl
    | false =>
      rw [if_neg (by simp), sum_eq a (by omega), Option.bind_some, refSum_eq _ a (by omega) (by omega)]
      simp
  unfold dioramalaw03_CrcSums.f
  rw [crc_awake, Option.bind_some, if_pos rfl, hj]
theorem CrcParts : dioramalaw03_CrcParts.Pure := by
  intro a b ha hb
  refine ⟨0 + 1, ?_⟩
  have hj : ∀ x, dioramalaw03_CrcParts.j0 (0 + 1) a b x = some true := by
    intro x
    simp only [dioramalaw03_CrcParts.j0]
    cases x with
    | true => rw [if_pos rfl, crc_awake]; rfl
    | false =>
      have hn : bs (⟨#[]⟩ : ByteArray) = [] := rfl
      rw [if_neg (by simp), sum_eq a (by omega), Option.bind_some, more_sum a b (by omega), Option.bind_some, if_pos (by omega), sum_eq (a ++ b) (by rw [ByteArray.size_append]; omega), Option.bind_some, bs_append, if_pos rfl, Option.bind_some, more_sum a _ (Nat.zero_le _)]
      simp [hn]
  unfold dioramalaw03_CrcParts.f
  rw [crc_awake, Option.bind_some, if_pos rfl, hj, hj]
  split <;> rfl
/-- The four bytes of a sum. -/
def le4 (n : Int) : List Int := [n % 256, n / 256 % 256, n / 65536 % 256, n / 16777216 % 256]
theorem refPut_eq (k : Nat) (n : Int) (h : 0 ≤ n ∧ n ≤ 4294967295) (hk : 5 ≤ k) : dioramaref03_Put.f k n = some (strOfNums (le4 n)) := by
  obtain ⟨k, rfl⟩ : ∃ m, k = m + 5 := ⟨k - 5, by omega⟩
  obtain ⟨m, rfl⟩ := Int.eq_ofNat_of_zero_le h.1
  have hm : m ≤ 4294967295 := by omega
  have d : ∀ (x : Nat), x ≤ 4294967295 → Int.tdiv (x : Int) 256 % 4294967296 = ((x / 256 : Nat) : Int) := by
    intro x hx
    rw [show Int.tdiv (x : Int) 256 = ((x / 256 : Nat) : Int) from rfl]
    omega
  have t : ∀ (x : Nat), Int.tmod (x : Int) 256 % 256 = ((x % 256 : Nat) : Int) := by
    intro x
    rw [show Int.tmod (x : Int) 256 = ((x % 256 : Nat) : Int) from rfl]
    omega
  unfold dioramaref03_Put.f
  simp only [dioramaref03_Put.l0]
  rw [if_pos (by decide), if_pos (by simp), d _ hm, t, show wrap64 (0 + 1) = 1 by unfold wrap64; omega, if_pos (by decide), if_pos (by simp), d _ (by omega), t, show wrap64 (1 + 1) = 2 by unfold wrap64; omega, if_pos (by decide), if_pos (by simp),
    d _ (by omega), t, show wrap64 (2 + 1) = 3 by unfold wrap64; omega, if_pos (by decide), if_pos (by simp), d _ (by omega), t, show wrap64 (3 + 1) = 4 by unfold wrap64; omega, if_neg (by decide)]
  congr 2
  simp only [le4, List.nil_append, List.cons_append, List.cons.injEq, and_true]
  omega
theorem put_eq (n : Int) : crc_Put.f n = some (strOfNums (le4 n)) := rfl
theorem or_join (x y i : Nat) (hi : i ≤ 32) (hx : x < 2 ^ i) (hy : y * 2 ^ i < 2 ^ 32) : bits .or .u32 (x : Int) ((y * 2 ^ i : Nat) : Int) = ((x + y * 2 ^ i : Nat) : Int) := by
  have hx2 : x < 2 ^ 32 := Nat.lt_of_lt_of_le hx (Nat.pow_le_pow_right (by decide) hi)
  rw [(bits_nat .u32 32 (by decide) (fun n h0 h1 => by rw [IntKind.wrap_u32]; omega) x _ hx2 hy).2, Nat.or_comm, Nat.mul_comm y, ← Nat.two_pow_add_eq_or_of_lt hx, Nat.add_comm]
theorem get_four (a b c d : Nat) (ha : a < 256) (hb : b < 256) (hc : c < 256) (hd : d < 256) :
    bits .or .u32 (bits .or .u32 (bits .or .u32 ((a : Int) % 4294967296) ((((b : Int) % 4294967296) * 256) % 4294967296)) ((((c : Int) % 4294967296) * 65536) % 4294967296)) ((((d : Int) % 4294967296) * 16777216) % 4294967296)
      = ((a + 256 * b + 65536 * c + 16777216 * d : Nat) : Int) := by
  have e0 : (a : Int) % 4294967296 = (a : Int) := by omega
  have e1 : (((b : Int) % 4294967296) * 256) % 4294967296 = ((b * 2 ^ 8 : Nat) : Int) := by omega
  have e2 : (((c : Int) % 4294967296) * 65536) % 4294967296 = ((c * 2 ^ 16 : Nat) : Int) := by omega
  have e3 : (((d : Int) % 4294967296) * 16777216) % 4294967296 = ((d * 2 ^ 24 : Nat) : Int) := by omega
  rw [e0, e1, e2, e3, or_join _ _ 8 (by decide) (by omega) (by omega), or_join _ _ 16 (by decide) (by omega) (by omega), or_join _ _ 24 (by decide) (by omega) (by omega)]
  omega
theorem bt_nat (a : ByteArray) (i : Int) : ∃ n : Nat, bt a i = n ∧ n < 256 := by
  have := bt_range a i
  exact ⟨(bt a i).toNat, by omega, by omega⟩
theorem get_eq (a : ByteArray) (h : a.size = 4) : crc_Get.f a = some (bt a 0 + 256 * bt a 1 + 65536 * bt a 2 + 16777216 * bt a 3, true) := by
  obtain ⟨x0, h0, l0⟩ := bt_nat a 0
  obtain ⟨x1, h1, l1⟩ := bt_nat a 1
  obtain ⟨x2, h2, l2⟩ := bt_nat a 2
  obtain ⟨x3, h3, l3⟩ := bt_nat a 3
  unfold crc_Get.f
  rw [if_pos (by omega), if_pos (by omega), if_pos (by omega), if_pos (by omega), if_pos (by omega), h0, h1, h2, h3, get_four _ _ _ _ l0 l1 l2 l3]
  congr 2
theorem get_none (a : ByteArray) (h : a.size ≠ 4) : crc_Get.f a = some (0, false) := by
  unfold crc_Get.f
  rw [if_neg (by omega)]
theorem bt_strOfNums (xs : List Int) (i : Nat) (h : i < xs.length) (hx : 0 ≤ xs[i] ∧ xs[i] < 256) : bt (strOfNums xs) (i : Int) = xs[i] := by
  unfold bt
  rw [Int.toNat_natCast, dif_pos (by rw [strOfNums_size]; exact h)]
  show ((((xs.map fun n => UInt8.ofNat n.toNat).toArray)[i]'(by simpa using h)).toNat : Int) = _
  simp only [List.getElem_toArray, List.getElem_map, UInt8.toNat_ofNat']
  omega
theorem le4_range (n : Int) : ∀ x ∈ le4 n, 0 ≤ x ∧ x < 256 := by
  intro x hx
  simp only [le4, List.mem_cons, List.not_mem_nil, or_false] at hx
  omega
theorem get_put (n : Int) (h : 0 ≤ n ∧ n ≤ 4294967295) : crc_Get.f (strOfNums (le4 n)) = some (n, true) := by
  rw [get_eq _ (by rw [strOfNums_size]; rfl)]
  have b : ∀ (i : Nat) (hi : i < (le4 n).length), bt (strOfNums (le4 n)) (i : Int) = (le4 n)[i] := fun i hi => bt_strOfNums _ i hi (le4_range n _ (List.getElem_mem hi))
  have b0 : bt (strOfNums (le4 n)) 0 = n % 256 := b 0 (by simp [le4])
  have b1 : bt (strOfNums (le4 n)) 1 = n / 256 % 256 := b 1 (by simp [le4])
  have b2 : bt (strOfNums (le4 n)) 2 = n / 65536 % 256 := b 2 (by simp [le4])
  have b3 : bt (strOfNums (le4 n)) 3 = n / 16777216 % 256 := b 3 (by simp [le4])
  rw [b0, b1, b2, b3]
  congr 2
  omega
theorem put_get (a : ByteArray) (h : a.size = 4) : strOfNums (le4 (bt a 0 + 256 * bt a 1 + 65536 * bt a 2 + 16777216 * bt a 3)) = a := by
  have r0 := bt_range a 0
  have r1 := bt_range a 1
  have r2 := bt_range a 2
  have r3 := bt_range a 3
  have e : le4 (bt a 0 + 256 * bt a 1 + 65536 * bt a 2 + 16777216 * bt a 3) = [bt a 0, bt a 1, bt a 2, bt a 3] := by
    simp only [le4, List.cons.injEq, and_true]
    omega
  rw [e]
  obtain ⟨⟨l⟩⟩ := a
  match l, h with
  | [c0, c1, c2, c3], _ =>
    have e0 : bt ⟨⟨[c0, c1, c2, c3]⟩⟩ 0 = (c0.toNat : Int) := rfl
    have e1 : bt ⟨⟨[c0, c1, c2, c3]⟩⟩ 1 = (c1.toNat : Int) := rfl
    have e2 : bt ⟨⟨[c0, c1, c2, c3]⟩⟩ 2 = (c2.toNat : Int) := rfl
    have e3 : bt ⟨⟨[c0, c1, c2, c3]⟩⟩ 3 = (c3.toNat : Int) := rfl
    rw [e0, e1, e2, e3]
    simp [strOfNums]
theorem CrcPuts : dioramalaw03_CrcPuts.Pure := by
  intro n b hn hb
  have hr : 0 ≤ n ∧ n ≤ 4294967295 := by
    simp only [Lit.wf, IntKind.min, IntKind.max, IntKind.signed, IntKind.bits, Bool.and_eq_true] at hn
    exact ⟨by simpa using hn.1, by simpa using hn.2⟩
  refine ⟨5 + 1, ?_⟩
  have hj : ∀ x, dioramalaw03_CrcPuts.j0 (5 + 1) n b x = some true := by
    intro x
    simp only [dioramalaw03_CrcPuts.j0]
    cases x with
    | true => rw [if_pos rfl, crc_awake]; rfl
    | false =>
      rw [if_neg (by simp), put_eq, Option.bind_some, get_put n hr, Option.bind_some]
      by_cases h4 : b.size = 4
      · rw [get_eq b h4, Option.bind_some, Option.bind_some, refPut_eq 5 n hr (by omega), Option.bind_some, if_pos rfl, if_pos rfl, if_pos rfl, if_pos (by simp [h4]), if_pos rfl, put_eq, Option.bind_some, put_get b h4, if_pos rfl]
      · rw [get_none b h4, Option.bind_some, Option.bind_some, refPut_eq 5 n hr (by omega), Option.bind_some, if_pos rfl, if_pos rfl, if_pos rfl, if_pos (by simp; omega), if_neg (by simp)]
        rfl
  unfold dioramalaw03_CrcPuts.f
  rw [crc_awake, Option.bind_some, if_pos rfl, hj]
/-- Two texts' bytes, by exclusive or. -/
def xr (a b : List Nat) : List Nat := List.zipWith (· ^^^ ·) a b
def ints (l : List Nat) : List Int := l.map Int.ofNat
theorem xr_length (a b : List Nat) (h : a.length = b.length) : (xr a b).length = a.length := by simp [xr, h]
theorem xr_lt {a b : List Nat} (ha : ∀ c ∈ a, c < 256) (hb : ∀ c ∈ b, c < 256) : ∀ c ∈ xr a b, c < 256 := by
  intro c hc
  obtain ⟨i, hi, rfl⟩ := List.mem_iff_getElem.1 hc
  simp only [xr, List.getElem_zipWith]
  exact Nat.xor_lt_two_pow (n := 8) (ha _ (List.getElem_mem _)) (hb _ (List.getElem_mem _))
theorem xor_l0 (a b : ByteArray) (hab : a.size = b.size) (hs : a.size ≤ 140737488351232) (d : Nat) : ∀ (k i : Nat) (acc : List Int), i ≤ a.size → a.size - i = d → d < k → acc.length = i →
    dioramaref03_Xor.l0 k a b acc (i : Int) = some (strOfNums (acc ++ ints ((xr (bs a) (bs b)).drop i))) := by
  have hl : (xr (bs a) (bs b)).length = a.size := by rw [xr_length _ _ (by rw [bs_length, bs_length, hab]), bs_length]
  induction d with
  | zero =>
    intro k i acc hi h hk hacc
    obtain ⟨k, rfl⟩ : ∃ m, k = m + 1 := ⟨k - 1, by omega⟩
    simp only [dioramaref03_Xor.l0]
    rw [if_neg (by omega), List.drop_of_length_le (by omega)]
    simp [ints]
  | succ d ih =>
    intro k i acc hi h hk hacc
    obtain ⟨k, rfl⟩ : ∃ m, k = m + 1 := ⟨k - 1, by omega⟩
    have h1 : i < (bs a).length := by rw [bs_length]; omega
    have h2 : i < (bs b).length := by rw [bs_length]; omega
    simp only [dioramaref03_Xor.l0]
    rw [if_pos (by omega), if_pos (by omega), if_pos (by omega), if_pos (by omega), bt_bs a i (by omega), bt_bs b i (by omega), bits_xor_u8_nat _ _ (bs_lt a _ (List.getElem_mem h1)) (bs_lt b _ (List.getElem_mem h2)),
      wrap_inc (by omega) (by omega), show (i : Int) + 1 = ((i + 1 : Nat) : Int) by omega, ih k (i + 1) _ (by omega) (by omega) (by omega) (by simp [hacc]), List.drop_eq_getElem_cons (by omega : i < (xr (bs a) (bs b)).length)]
    simp [ints, xr]
theorem xor_eq (k : Nat) (a b : ByteArray) (hab : a.size = b.size) (hs : a.size ≤ 140737488351232) (hk : a.size < k) : dioramaref03_Xor.f k a b = some (strOfNums (ints (xr (bs a) (bs b)))) := by
  unfold dioramaref03_Xor.f
  exact xor_l0 a b hab hs a.size k 0 [] (by omega) (by omega) hk rfl
theorem bs_ints {l : List Nat} (h : ∀ c ∈ l, c < 256) : bs (strOfNums (ints l)) = l := by
  unfold bs ints
  rw [strOfNums_data, List.map_map, List.map_map]
  apply List.ext_getElem
  · simp
  · intro i h1 h2
    have := h _ (List.getElem_mem h2)
    simp
    omega
open Go.Proofs.CrcMath in
theorem sum_xr (a b c : List Nat) (h1 : a.length = b.length) (h2 : a.length = c.length) (ha : ∀ x ∈ a, x < 256) (hb : ∀ x ∈ b, x < 256) (hc : ∀ x ∈ c, x < 256) : sumN (xr (xr a b) c) = sumN a ^^^ sumN b ^^^ sumN c := by
  have ra := reg_lt a (x := 4294967295) (by omega) ha
  have rb := reg_lt b (x := 4294967295) (by omega) hb
  have rc := reg_lt c (x := 4294967295) (by omega) hc
  have e : reg 4294967295 (xr (xr a b) c) = reg 4294967295 a ^^^ reg 4294967295 b ^^^ reg 4294967295 c := by
    have := reg_xor (xr a b) c (4294967295 ^^^ 4294967295) 4294967295 (by rw [xr_length a b h1, h2])
    rw [← xr, show xr a b = List.zipWith (· ^^^ ·) a b from rfl, reg_xor a b _ _ h1, Nat.xor_self, Nat.zero_xor] at this
    exact this
  have rx : reg 4294967295 a ^^^ reg 4294967295 b ^^^ reg 4294967295 c < 4294967296 := xor_lt32 (xor_lt32 ra rb) rc
  unfold sumN
  rw [e, not_eq_xor rx, not_eq_xor ra, not_eq_xor rb, not_eq_xor rc]
  generalize reg 4294967295 a = x
  generalize reg 4294967295 b = y
  generalize reg 4294967295 c = z
  apply Nat.eq_of_testBit_eq
  intro i
  simp only [Nat.testBit_xor]
  cases x.testBit i <;> cases y.testBit i <;> cases z.testBit i <;> cases (4294967295 : Nat).testBit i <;> rfl
theorem CrcAdds : dioramalaw03_CrcAdds.Pure := by
  intro a b c ha hb hc
  refine ⟨(a.size + 1) + 1, ?_⟩
  have ht : dioramalaw03_CrcAdds.j0 ((a.size + 1) + 1) a b c true = some true := by
    simp only [dioramalaw03_CrcAdds.j0]
    rw [if_pos trivial, crc_awake]; rfl
  unfold dioramalaw03_CrcAdds.f
  rw [crc_awake, Option.bind_some, if_pos rfl, ht]
  split
  · rfl
  · split
    · rename_i hba
      by_cases hca : c.size = a.size
      · rw [show ((c.size : Int) != (a.size : Int)) = false by simp [hca]]
        have hb2 : b.size = a.size := by omega
        simp only [dioramalaw03_CrcAdds.j0]
        have hx := bs_ints (xr_lt (bs_lt a) (bs_lt b))
        have hs : (strOfNums (ints (xr (bs a) (bs b)))).size = a.size := by rw [← bs_length, hx, xr_length _ _ (by rw [bs_length, bs_length, hb2]), bs_length]
        have hy : bs (strOfNums (ints (xr (xr (bs a) (bs b)) (bs c)))) = xr (xr (bs a) (bs b)) (bs c) := bs_ints (xr_lt (xr_lt (bs_lt a) (bs_lt b)) (bs_lt c))
        have hz : (strOfNums (ints (xr (xr (bs a) (bs b)) (bs c)))).size = a.size := by
          rw [← bs_length, hy, xr_length _ _ (by rw [xr_length _ _ (by rw [bs_length, bs_length, hb2]), bs_length, bs_length, hca]), xr_length _ _ (by rw [bs_length, bs_length, hb2]), bs_length]
        rw [if_neg (by simp), xor_eq _ a b (by omega) (by omega) (by omega), Option.bind_some, xor_eq _ _ c (by omega) (by omega) (by omega), Option.bind_some, hx, sum_eq _ (by omega), Option.bind_some, sum_eq a (by omega), Option.bind_some,
          sum_eq b (by omega), Option.bind_some, sum_eq c (by omega), Option.bind_some, hy, sum_xr _ _ _ (by rw [bs_length, bs_length, hb2]) (by rw [bs_length, bs_length, hca]) (bs_lt a) (bs_lt b) (bs_lt c),
          bits_xor_u32_nat _ _ (sumN_lt _) (sumN_lt _), bits_xor_u32_nat _ _ (Go.Proofs.CrcMath.xor_lt32 (sumN_lt _) (sumN_lt _)) (sumN_lt _)]
        simp
      · rw [show ((c.size : Int) != (a.size : Int)) = true by simp; omega]
        exact ht
    · rfl
end Go.Proofs.Ytdjpelcdijpihaa.Pure
