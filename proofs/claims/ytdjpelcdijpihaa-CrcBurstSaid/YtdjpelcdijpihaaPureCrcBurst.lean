/- The pure statement of the law CrcBurst is true: within the sizes that the row gives, a change within 32 bits on end changes the sum. -/
import Derived.Test.YtdjpelcdijpihaaCrcLaws
namespace Go.Proofs.CrcMath
/-- A text's bits as one number. -/
def val : List Nat → Nat
  | [] => 0
  | c :: l => 2 ^ 8 * val l + c
theorem xor_val (x c v : Nat) (hc : c < 256) : x ^^^ (2 ^ 8 * v + c) = 2 ^ 8 * v ^^^ (x ^^^ c) := by
  have e : 2 ^ 8 * v + c = 2 ^ 8 * v ^^^ c := by
    apply Nat.eq_of_testBit_eq
    intro i
    rw [Nat.testBit_two_pow_mul_add _ (show c < 2 ^ 8 from hc), Nat.testBit_xor, Nat.testBit_two_pow_mul]
    by_cases hi : i < 8
    · rw [if_pos hi]; simp [show ¬ 8 ≤ i by omega]
    · rw [if_neg hi, Nat.testBit_lt_two_pow (x := c) (i := i) (Nat.lt_of_lt_of_le (show c < 2 ^ 8 from hc) (Nat.pow_le_pow_right (by decide) (by omega)))]; simp [show 8 ≤ i by omega]
  rw [e, ← Nat.xor_assoc, Nat.xor_comm x, Nat.xor_assoc]
theorem reg_val : ∀ (l : List Nat) (x : Nat), (∀ c ∈ l, c < 256) → reg x l = stn (8 * l.length) (x ^^^ val l)
  | [], x, _ => by simp [reg, val, stn]
  | c :: l, x, h => by
    rw [reg_cons, reg_val l _ (fun d hd => h d (by simp [hd])), List.length_cons, Nat.mul_add, Nat.mul_one, stn_add, val, xor_val _ _ _ (h c (by simp)), stn_xor (2 ^ 8 * val l) (x ^^^ c) 8, stn_shift, put, Nat.xor_comm]
theorem val_bit : ∀ (l : List Nat) (j : Nat), (∀ c ∈ l, c < 256) → (val l).testBit j = (l.getD (j / 8) 0).testBit (j % 8)
  | [], j, _ => by simp [val]
  | c :: l, j, h => by
    have hc : c < 2 ^ 8 := h c (by simp)
    rw [val, Nat.testBit_two_pow_mul_add _ hc]
    by_cases hj : j < 8
    · rw [if_pos hj, show j / 8 = 0 by omega, show j % 8 = j by omega]; rfl
    · rw [if_neg hj, val_bit l _ (fun d hd => h d (by simp [hd])), show j / 8 = (j - 8) / 8 + 1 by omega, show (j - 8) % 8 = j % 8 by omega]; rfl
theorem val_inj : ∀ (l m : List Nat), (∀ c ∈ l, c < 256) → (∀ c ∈ m, c < 256) → l.length = m.length → val l = val m → l = m
  | [], [], _, _, _, _ => rfl
  | [], _ :: _, _, _, h, _ => by simp at h
  | _ :: _, [], _, _, h, _ => by simp at h
  | c :: l, d :: m, hl, hm, h, e => by
    have hc := hl c (by simp)
    have hd := hm d (by simp)
    simp only [val] at e
    rw [show c = d by omega, val_inj l m (fun x hx => hl x (by simp [hx])) (fun x hx => hm x (by simp [hx])) (by simpa using h) (by omega)]
def flAt (l : List Nat) (p : Nat) : List Nat := if p / 8 < l.length then l.set (p / 8) (l.getD (p / 8) 0 ^^^ 2 ^ (p % 8)) else l
def flN (l : List Nat) (f m : Nat) : Nat → List Nat
  | 0 => l
  | k + 1 => if m / 2 ^ k % 2 = 1 then flAt (flN l f m k) (f + k) else flN l f m k
theorem flAt_length (l : List Nat) (p : Nat) : (flAt l p).length = l.length := by
  unfold flAt
  split <;> simp
theorem getD_lt {l : List Nat} (h : ∀ c ∈ l, c < 256) (i : Nat) : l.getD i 0 < 256 := by
  rw [List.getD_eq_getElem?_getD]
  by_cases hi : i < l.length
  · rw [List.getElem?_eq_getElem hi]; exact h _ (List.getElem_mem hi)
  · rw [List.getElem?_eq_none (by omega)]; simp
theorem flAt_lt {l : List Nat} (h : ∀ c ∈ l, c < 256) (p : Nat) : ∀ c ∈ flAt l p, c < 256 := by
  unfold flAt
  split
  · intro c hc
    rcases List.mem_or_eq_of_mem_set hc with hc | rfl
    · exact h c hc
    · exact Nat.xor_lt_two_pow (n := 8) (getD_lt h _) (Nat.pow_lt_pow_right (by decide) (Nat.mod_lt _ (by decide)))
  · exact h
theorem flN_length (l : List Nat) (f m : Nat) : ∀ k, (flN l f m k).length = l.length
  | 0 => rfl
  | k + 1 => by
    unfold flN
    split
    · rw [flAt_length, flN_length l f m k]
    · exact flN_length l f m k
theorem flN_lt {l : List Nat} (h : ∀ c ∈ l, c < 256) (f m : Nat) : ∀ k, ∀ c ∈ flN l f m k, c < 256
  | 0 => h
  | k + 1 => by
    unfold flN
    split
    · exact flAt_lt (flN_lt h f m k) _
    · exact flN_lt h f m k
theorem val_flAt {l : List Nat} (h : ∀ c ∈ l, c < 256) (p : Nat) (hp : p / 8 < l.length) : val (flAt l p) = val l ^^^ 2 ^ p := by
  apply Nat.eq_of_testBit_eq
  intro j
  rw [val_bit _ _ (flAt_lt h p), Nat.testBit_xor, val_bit _ _ h, Nat.testBit_two_pow, flAt, if_pos hp]
  by_cases e : j / 8 = p / 8
  · rw [e]
    rw [List.getD_eq_getElem?_getD, List.getElem?_set_self hp, Option.getD_some, Nat.testBit_xor, Nat.testBit_two_pow]
    congr 1
    simp
    omega
  · rw [List.getD_eq_getElem?_getD, List.getElem?_set_ne (Ne.symm e), ← List.getD_eq_getElem?_getD]
    simp [show ¬ p = j by intro h; rw [h] at e; exact e rfl]
/-- The mask's bits that meet the text. -/
def met (n f m : Nat) : Nat → Nat
  | 0 => 0
  | k + 1 => if m / 2 ^ k % 2 = 1 ∧ (f + k) / 8 < n then met n f m k ^^^ 2 ^ k else met n f m k
theorem met_lt (n f m : Nat) : ∀ k, met n f m k < 2 ^ k
  | 0 => by simp [met]
  | k + 1 => by
    have h := met_lt n f m k
    have h2 : 2 ^ k < 2 ^ (k + 1) := Nat.pow_lt_pow_right (by decide) (by omega)
    unfold met
    split
    · exact Nat.xor_lt_two_pow (by omega) h2
    · omega
theorem val_flN {l : List Nat} (h : ∀ c ∈ l, c < 256) (f m : Nat) : ∀ k, val (flN l f m k) = val l ^^^ 2 ^ f * met l.length f m k
  | 0 => by simp [flN, met]
  | k + 1 => by
    have ih := val_flN h f m k
    unfold flN met
    by_cases h1 : m / 2 ^ k % 2 = 1
    · rw [if_pos h1]
      by_cases h2 : (f + k) / 8 < l.length
      · rw [if_pos ⟨h1, h2⟩, val_flAt (flN_lt h f m k) _ (by rw [flN_length]; exact h2), ih, Nat.xor_assoc]
        congr 1
        apply Nat.eq_of_testBit_eq
        intro j
        simp only [Nat.testBit_xor, Nat.testBit_two_pow_mul, Nat.testBit_two_pow]
        by_cases hj : f ≤ j
        · simp only [hj, decide_true, Bool.true_and]
          congr 1
          rw [decide_eq_decide]
          omega
        · simp [hj]
          omega
      · rw [if_neg (by omega), flAt, if_neg (by rw [flN_length]; exact h2), ih]
    · rw [if_neg h1, if_neg (by omega), ih]
/-- A change within 32 bits on end that changes a text changes its register. -/
theorem burst {l : List Nat} (h : ∀ c ∈ l, c < 256) (f m x : Nat) (hf : f ≤ 8 * l.length) : reg x (flN l f m 32) = reg x l ↔ flN l f m 32 = l := by
  have hlt := flN_lt h f m 32
  have hm := met_lt l.length f m 32
  constructor
  · intro e
    rw [reg_val _ _ hlt, reg_val _ _ h, flN_length, val_flN h, ← Nat.xor_assoc, stn_xor] at e
    have e2 : stn (8 * l.length) (2 ^ f * met l.length f m 32) = 0 := by
      have := congrArg (stn (8 * l.length) (x ^^^ val l) ^^^ ·) e
      simpa [← Nat.xor_assoc] using this
    rw [show 8 * l.length = (8 * l.length - f) + f by omega, stn_add, stn_shift] at e2
    have e3 := stn_zero (by omega) _ e2
    apply val_inj _ _ hlt h (flN_length _ _ _ _)
    rw [val_flN h, e3]
    simp
  · intro e
    rw [e]
end Go.Proofs.CrcMath
namespace Go.Proofs.Ytdjpelcdijpihaa.Pure
open Go.RowKit Go.Proofs.Ytdjpelcdijpihaa.Print Go.Proofs.YtdjpelcdijpihaaW.PrintWords Go.Proofs.YtdjpelcdijpihaaW.PrintLast Go.Proofs.CrcMath
theorem oneN_pow : ∀ j, j < 8 → oneN j = ((2 ^ j : Nat) : Int) := by decide
theorem flipAt_nat {l : List Nat} (h : ∀ c ∈ l, c < 256) (p : Nat) : flipAt (ints l) p = ints (flAt l p) := by
  unfold flipAt flAt
  have hl : (ints l).length = l.length := by simp [ints]
  rw [hl]
  split
  · rename_i hp
    have hg : (ints l).getD (p / 8) 0 = ((l.getD (p / 8) 0 : Nat) : Int) := by
      simp [ints, List.getD_eq_getElem?_getD, List.getElem?_eq_getElem hp]
    rw [hg, oneN_pow _ (Nat.mod_lt _ (by decide)), bits_xor_u8_nat _ _ (getD_lt h _) (Nat.pow_lt_pow_right (a := 2) (by decide) (Nat.mod_lt p (by decide : 0 < 8)))]
    simp [ints]
  · rfl
theorem flipN_nat {l : List Nat} (h : ∀ c ∈ l, c < 256) (f m : Nat) : ∀ k, flipN (ints l) f (m : Int) k = ints (flN l f m k)
  | 0 => rfl
  | k + 1 => by
    unfold flipN flN
    rw [flipN_nat h f m k, flipAt_nat (flN_lt h f m k), shr_nat]
    by_cases h1 : m / 2 ^ k % 2 = 1
    · rw [if_pos h1, if_pos (by omega)]
    · rw [if_neg h1, if_neg (by omega)]
theorem bytesI_ints (a : ByteArray) : bytesI a = ints (bs a) := by simp [bytesI, ints, bs]
theorem CrcBurst : dioramalaw03_CrcBurst.Pure := by
  intro a f m ha hf hm
  have hmr : 0 ≤ m ∧ m ≤ 4294967295 := by
    simp only [Lit.wf, IntKind.min, IntKind.max, IntKind.signed, IntKind.bits, Bool.and_eq_true] at hm
    exact ⟨by simpa using hm.1, by simpa using hm.2⟩
  refine ⟨0 + 1, ?_⟩
  have ht : dioramalaw03_CrcBurst.j0 (0 + 1) a f m true = some true := by
    simp only [dioramalaw03_CrcBurst.j0]
    rw [if_pos trivial, crc_awake]; rfl
  unfold dioramalaw03_CrcBurst.f
  rw [crc_awake, Option.bind_some, if_pos rfl, ht]
  split
  · rfl
  · rename_i h1
    split
    · rfl
    · rename_i h2
      by_cases h3 : f < 8 * (a.size : Int)
      · rw [show decide (f ≥ wrap64 (8 * (a.size : Int))) = false by rw [decide_eq_false_iff_not]; unfold wrap64; omega]
        simp only [dioramalaw03_CrcBurst.j0]
        obtain ⟨f, rfl⟩ := Int.eq_ofNat_of_zero_le (by omega : 0 ≤ f)
        obtain ⟨m, rfl⟩ := Int.eq_ofNat_of_zero_le hmr.1
        have hfl : dioramaref03_Flip.f a (f : Int) (m : Int) = some (strOfNums (ints (flN (bs a) f m 32))) := by
          unfold dioramaref03_Flip.f
          rw [if_pos ⟨by omega, by omega, by omega, by omega, by omega⟩, Int.toNat_natCast, bytesI_ints, flipN_nat (bs_lt a)]
        have hb := bs_ints (flN_lt (bs_lt a) f m 32)
        have hs : (strOfNums (ints (flN (bs a) f m 32))).size = a.size := by rw [← bs_length, hb, flN_length, bs_length]
        rw [if_neg (by simp), hfl, Option.bind_some, sum_eq _ (by omega), Option.bind_some, sum_eq a (by omega), Option.bind_some, hb]
        have hbu := burst (bs_lt a) f m 4294967295 (by rw [bs_length]; omega)
        have r1 := reg_lt (flN (bs a) f m 32) (x := 4294967295) (by omega) (flN_lt (bs_lt a) f m 32)
        have r2 := reg_lt (bs a) (x := 4294967295) (by omega) (bs_lt a)
        congr 1
        rw [beq_iff_eq]
        by_cases e : flN (bs a) f m 32 = bs a
        · have e2 : strOfNums (ints (flN (bs a) f m 32)) = a := by
            rw [e]
            apply ByteArray.ext
            apply Array.ext'
            rw [strOfNums_data]
            apply List.ext_getElem
            · simp [ints, bs]
            · intro i h1 h2
              simp [ints, bs]
          rw [e2, e]
          simp
        · have e2 : ¬ (strOfNums (ints (flN (bs a) f m 32))) = a := fun h => e (by rw [← hb, h])
          have e3 : ¬ (strOfNums (ints (flN (bs a) f m 32))).toList = a.toList := fun h => e2 (by rw [ByteArray.toList_eq, ByteArray.toList_eq] at h; exact ByteArray.ext (Array.ext' h))
          have e4 : ¬ sumN (flN (bs a) f m 32) = sumN (bs a) := fun h => e (hbu.1 (by unfold sumN at h; omega))
          rw [show (((sumN (flN (bs a) f m 32) : Nat) : Int) == ((sumN (bs a) : Nat) : Int)) = false by rw [beq_eq_false_iff_ne]; exact fun h => e4 (by omega)]
          simpa using e3
      · rw [show decide (f ≥ wrap64 (8 * (a.size : Int))) = true by rw [decide_eq_true_iff]; unfold wrap64; omega]
        exact ht
end Go.Proofs.Ytdjpelcdijpihaa.Pure
