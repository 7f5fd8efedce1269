/- A change within 32 bits on end that changes a text changes its sum. -/
import Derived.Test.YtdjpelcdijpihaaFrameGreat
import Derived.Test.YtdjpelcdijpihaaHandFlip
namespace Go.Proofs.CrcMath
/-- A text's bits as one number. -/
def val : List Nat → Nat
  | [] => 0
  | c :: l => 2 ^ 8 * val l + c
theorem xor_val (x c v : Nat) (hc : c < 256) : x ^^^ (2 ^ 8 * v + c) = 2 ^ 8 * v ^^^ (x ^^^ c) := by
  have e : 2 ^ 8 * v + c = 2 ^ 8 * v ^^^ c := by
    apply Nat.eq_of_testBit_eq
    intro i
    rw [Nat.testBit_two_pow_mul_add _ (show c < 2 ^ 8 from hc), Nat.testBit_xor, Nat.testBit_two_pow_mul]
    by_cases hi : i < 8
    · rw [if_pos hi]; simp [show ¬ 8 ≤ i by omega]
    · rw [if_neg hi, Nat.testBit_lt_two_pow (x := c) (i := i) (Nat.lt_of_lt_of_le (show c < 2 ^ 8 from hc) (Nat.pow_le_pow_right (by decide) (by omega)))]; simp [show 8 ≤ i by omega]
  rw [e, ← Nat.xor_assoc, Nat.xor_comm x, Nat.xor_assoc]
theorem reg_val : ∀ (l : List Nat) (x : Nat), (∀ c ∈ l, c < 256) → reg x l = stn (8 * l.length) (x ^^^ val l)
  | [], x, _ => by simp [reg, val, stn]
  | c :: l, x, h => by
    rw [reg_cons, reg_val l _ (fun d hd => h d (by simp [hd])), List.length_cons, Nat.mul_add, Nat.mul_one, stn_add, val, xor_val _ _ _ (h c (by simp)), stn_xor (2 ^ 8 * val l) (x ^^^ c) 8, stn_shift, put, Nat.xor_comm]
theorem val_bit : ∀ (l : List Nat) (j : Nat), (∀ c ∈ l, c < 256) → (val l).testBit j = (l.getD (j / 8) 0).testBit (j % 8)
  | [], j, _ => by simp [val]
  | c :: l, j, h => by
    have hc : c < 2 ^ 8 := h c (by simp)
    rw [val, Nat.testBit_two_pow_mul_add _ hc]
    by_cases hj : j < 8
    · rw [if_pos hj, show j / 8 = 0 by omega, show j % 8 = j by omega]; rfl
    · rw [if_neg hj, val_bit l _ (fun d hd => h d (by simp [hd])), show j / 8 = (j - 8) / 8 + 1 by omega, show (j - 8) % 8 = j % 8 by omega]; rfl
theorem val_inj : ∀ (l m : List Nat), (∀ c ∈ l, c < 256) → (∀ c ∈ m, c < 256) → l.length = m.length → val l = val m → l = m
  | [], [], _, _, _, _ => rfl
  | [], _ :: _, _, _, h, _ => by simp at h
  | _ :: _, [], _, _, h, _ => by simp at h
  | c :: l, d :: m, hl, hm, h, e => by
    have hc := hl c (by simp)
    have hd := hm d (by simp)
    simp only [val] at e
    rw [show c = d by omega, val_inj l m (fun x hx => hl x (by simp [hx])) (fun x hx => hm x (by simp [hx])) (by simpa using h) (by omega)]
def flAt (l : List Nat) (p : Nat) : List Nat := if p / 8 < l.length then l.set (p / 8) (l.getD (p / 8) 0 ^^^ 2 ^ (p % 8)) else l
def flN (l : List Nat) (f m : Nat) : Nat → List Nat
  | 0 => l
  | k + 1 => if m / 2 ^ k % 2 = 1 then flAt (flN l f m k) (f + k) else flN l f m k
theorem flAt_length (l : List Nat) (p : Nat) : (flAt l p).length = l.length := by
  unfold flAt
  split <;> simp
theorem getD_lt {l : List Nat} (h : ∀ c ∈ l, c < 256) (i : Nat) : l.getD i 0 < 256 := by
  rw [List.getD_eq_getElem?_getD]
  by_cases hi : i < l.length
  · rw [List.getElem?_eq_getElem hi]; exact h _ (List.getElem_mem hi)
  · rw [List.getElem?_eq_none (by omega)]; simp
theorem flAt_lt {l : List Nat} (h : ∀ c ∈ l, c < 256) (p : Nat) : ∀ c ∈ flAt l p, c < 256 := by
  unfold flAt
  split
  · intro c hc
    rcases List.mem_or_eq_of_mem_set hc with hc | rfl
    · exact h c hc
    · exact Nat.xor_lt_two_pow (n := 8) (getD_lt h _) (Nat.pow_lt_pow_right (by decide) (Nat.mod_lt _ (by decide)))
  · exact h
theorem flN_length (l : List Nat) (f m : Nat) : ∀ k, (flN l f m k).length = l.length
  | 0 => rfl
  | k + 1 => by
    unfold flN
    split
    · rw [flAt_length, flN_length l f m k]
    · exact flN_length l f m k
theorem flN_lt {l : List Nat} (h : ∀ c ∈ l, c < 256) (f m : Nat) : ∀ k, ∀ c ∈ flN l f m k, c < 256
  | 0 => h
  | k + 1 => by
    unfold flN
    split
    · exact flAt_lt (flN_lt h f m k) _
    · exact flN_lt h f m k
theorem val_flAt {l : List Nat} (h : ∀ c ∈ l, c < 256) (p : Nat) (hp : p / 8 < l.length) : val (flAt l p) = val l ^^^ 2 ^ p := by
  apply Nat.eq_of_testBit_eq
  intro j
  rw [val_bit _ _ (flAt_lt h p), Nat.testBit_xor, val_bit _ _ h, Nat.testBit_two_pow, flAt, if_pos hp]
  by_cases e : j / 8 = p / 8
  · rw [e]
    rw [List.getD_eq_getElem?_getD, List.getElem?_set_self hp, Option.getD_some, Nat.testBit_xor, Nat.testBit_two_pow]
    congr 1
    simp
    omega
  · rw [List.getD_eq_getElem?_getD, List.getElem?_set_ne (Ne.symm e), ← List.getD_eq_getElem?_getD]
    simp [show ¬ p = j by intro h; rw [h] at e; exact e rfl]
/-- The mask's bits that meet the text. -/
def met (n f m : Nat) : Nat → Nat
  | 0 => 0
  | k + 1 => if m / 2 ^ k % 2 = 1 ∧ (f + k) / 8 < n then met n f m k ^^^ 2 ^ k else met n f m k
theorem met_lt (n f m : Nat) : ∀ k, met n f m k < 2 ^ k
  | 0 => by simp [met]
  | k + 1 => by
    have h := met_lt n f m k
    have h2 : 2 ^ k < 2 ^ (k + 1) := Nat.pow_lt_pow_right (by decide) (by omega)
    unfold met
    split
    · exact Nat.xor_lt_two_pow (by omega) h2
    · omega
theorem val_flN {l : List Nat} (h : ∀ c ∈ l, c < 256) (f m : Nat) : ∀ k, val (flN l f m k) = val l ^^^ 2 ^ f * met l.length f m k
  | 0 => by simp [flN, met]
  | k + 1 => by
    have ih := val_flN h f m k
    unfold flN met
    by_cases h1 : m / 2 ^ k % 2 = 1
    · rw [if_pos h1]
      by_cases h2 : (f + k) / 8 < l.length
      · rw [if_pos ⟨h1, h2⟩, val_flAt (flN_lt h f m k) _ (by rw [flN_length]; exact h2), ih, Nat.xor_assoc]
        congr 1
        apply Nat.eq_of_testBit_eq
        intro j
        simp only [Nat.testBit_xor, Nat.testBit_two_pow_mul, Nat.testBit_two_pow]
        by_cases hj : f ≤ j
        · simp only [hj, decide_true, Bool.true_and]
          congr 1
          rw [decide_eq_decide]
          omega
        · simp [hj]
          omega
      · rw [if_neg (by omega), flAt, if_neg (by rw [flN_length]; exact h2), ih]
    · rw [if_neg h1, if_neg (by omega), ih]
/-- A change within 32 bits on end that changes a text changes its register. -/
theorem burst {l : List Nat} (h : ∀ c ∈ l, c < 256) (f m x : Nat) (hf : f ≤ 8 * l.length) : reg x (flN l f m 32) = reg x l ↔ flN l f m 32 = l := by
  have hlt := flN_lt h f m 32
  have hm := met_lt l.length f m 32
  constructor
  · intro e
    rw [reg_val _ _ hlt, reg_val _ _ h, flN_length, val_flN h, ← Nat.xor_assoc, stn_xor] at e
    have e2 : stn (8 * l.length) (2 ^ f * met l.length f m 32) = 0 := by
      have := congrArg (stn (8 * l.length) (x ^^^ val l) ^^^ ·) e
      simpa [← Nat.xor_assoc] using this
    rw [show 8 * l.length = (8 * l.length - f) + f by omega, stn_add, stn_shift] at e2
    have e3 := stn_zero (by omega) _ e2
    apply val_inj _ _ hlt h (flN_length _ _ _ _)
    rw [val_flN h, e3]
    simp
  · intro e
    rw [e]
end Go.Proofs.CrcMath
namespace Go.Proofs.Ytdjpelcdijpihaa.Pure
open Go.RowKit Go.Proofs.Ytdjpelcdijpihaa.Print Go.Proofs.Ytdjpelcdijpihaa.PrintF Go.Proofs.YtdjpelcdijpihaaW.PrintWords Go.Proofs.YtdjpelcdijpihaaW.PrintLast Go.Proofs.CrcMath
theorem oneN_pow : ∀ j, j < 8 → oneN j = ((2 ^ j : Nat) : Int) := by decide
theorem flipAt_nat {l : List Nat} (h : ∀ c ∈ l, c < 256) (p : Nat) : flipAt (ints l) p = ints (flAt l p) := by
  unfold flipAt flAt
  have hl : (ints l).length = l.length := by simp [ints]
  rw [hl]
  split
  · rename_i hp
    have hg : (ints l).getD (p / 8) 0 = ((l.getD (p / 8) 0 : Nat) : Int) := by
      simp [ints, List.getD_eq_getElem?_getD, List.getElem?_eq_getElem hp]
    rw [hg, oneN_pow _ (Nat.mod_lt _ (by decide)), bits_xor_u8_nat _ _ (getD_lt h _) (Nat.pow_lt_pow_right (a := 2) (by decide) (Nat.mod_lt p (by decide : 0 < 8)))]
    simp [ints]
  · rfl
theorem flipN_nat {l : List Nat} (h : ∀ c ∈ l, c < 256) (f m : Nat) : ∀ k, flipN (ints l) f (m : Int) k = ints (flN l f m k)
  | 0 => rfl
  | k + 1 => by
    unfold flipN flN
    rw [flipN_nat h f m k, flipAt_nat (flN_lt h f m k), shr_nat]
    by_cases h1 : m / 2 ^ k % 2 = 1
    · rw [if_pos h1, if_pos (by omega)]
    · rw [if_neg h1, if_neg (by omega)]
theorem bytesI_ints (a : ByteArray) : bytesI a = ints (bs a) := by simp [bytesI, ints, bs]
theorem flip_eq (a : ByteArray) (f m : Nat) (ha : a.size ≤ 1000) (hf : f ≤ 1000000) (hm : m ≤ 4294967295) : dioramaref03_Flip.f a (f : Int) (m : Int) = some (mkB (flN (bs a) f m 32)) := by
  unfold dioramaref03_Flip.f
  rw [if_pos ⟨by omega, by omega, by omega, by omega, by omega⟩, Int.toNat_natCast, bytesI_ints, flipN_nat (bs_lt a)]
  rw [strOf_mkB]
theorem sum_burst {l : List Nat} (h : ∀ c ∈ l, c < 256) (f m : Nat) (hf : f ≤ 8 * l.length) (e : sumN (flN l f m 32) = sumN l) : flN l f m 32 = l := by
  have hbu := burst h f m 4294967295 hf
  have r1 := reg_lt (flN l f m 32) (x := 4294967295) (by omega) (flN_lt h f m 32)
  have r2 := reg_lt l (x := 4294967295) (by omega) h
  exact hbu.1 (by unfold sumN at e; omega)
theorem le4N_inj {n m : Nat} (hn : n < 4294967296) (hm : m < 4294967296) (h : le4N n = le4N m) : n = m := by
  simp only [le4N, List.cons.injEq] at h
  omega
theorem secsE_pre : ∀ (pre : List S52) (M : Nat) (acc : List S52) (X : List Nat), (∀ s ∈ pre, goodS s) → X ≠ [] → acc.length + pre.length ≤ 7 → secsE (pre.length + M) acc (allB pre ++ X) = secsE M (acc ++ pre) X
  | [], M, acc, X, _, _, _ => by simp [allB]
  | s :: pre, M, acc, X, h, hX, ha => by
    have hne : ¬ (allB (s :: pre) ++ X) = [] := fun h2 => hX (List.append_eq_nil_iff.1 h2).2
    rw [show (s :: pre).length + M = (pre.length + M) + 1 by simp; omega]
    simp only [secsE, if_neg hne, if_neg (show ¬ acc.length = 8 by simp at ha; omega)]
    rw [show allB (s :: pre) ++ X = secB s ++ (allB pre ++ X) by simp [allB], secE_put (h s (by simp))]
    simp only
    rw [secsE_pre pre M _ X (fun x hx => h x (by simp [hx])) hX (by simp at ha ⊢; omega)]
    simp
/-- A section's head, up to its payload. -/
def headB (s : S52) : List Nat := s.f0.toNat :: vb s.f1.size
theorem secE_burst {s : S52} (h : goodS s) (f m : Nat) (hf : f ≤ 8 * s.f1.size) (hne : flN (bs s.f1) f m 32 ≠ bs s.f1) (q : List Nat) : secE (headB s ++ (flN (bs s.f1) f m 32 ++ (le4N (sumN (bs s.f1)) ++ q))) = .error 5 := by
  have h1 := h.1
  have h3 := h.2.2
  have hlen : (flN (bs s.f1) f m 32).length = s.f1.size := by rw [flN_length, bs_length]
  simp only [headB, List.cons_append, secE]
  rw [if_neg (by omega), gv_put _ _ (by omega)]
  simp only
  rw [if_neg (by omega), if_neg (by simp only [List.length_append, le4N_len, hlen]; omega)]
  have ht : (flN (bs s.f1) f m 32 ++ (le4N (sumN (bs s.f1)) ++ q)).take s.f1.size = flN (bs s.f1) f m 32 := by rw [← hlen, List.take_left]
  have hd : (flN (bs s.f1) f m 32 ++ (le4N (sumN (bs s.f1)) ++ q)).drop s.f1.size = le4N (sumN (bs s.f1)) ++ q := by rw [← hlen, List.drop_left]
  rw [ht, hd, ← le4N_len (sumN (bs s.f1)), List.take_left, if_neg]
  intro e
  exact hne (sum_burst (bs_lt _) f m (by rw [bs_length]; exact hf) (le4N_inj (sumN_lt _) (sumN_lt _) e).symm)
theorem getM_burst {l : List S52} (h : ∀ s ∈ l, goodS s) (hl : l.length ≤ 8) (i : Nat) (hi : i < l.length) (f m : Nat) (hf : f ≤ 8 * l[i].f1.size) (hne : flN (bs l[i].f1) f m 32 ≠ bs l[i].f1) :
    getM dior (mkB (fileB 2 (l.take i) ++ (headB l[i] ++ (flN (bs l[i].f1) f m 32 ++ (le4N (sumN (bs l[i].f1)) ++ allB (l.drop (i + 1))))))) = .error 5 := by
  have hg := h l[i] (List.getElem_mem hi)
  have hpre : ∀ s ∈ l.take i, goodS s := fun s hs => h s (List.mem_of_mem_take hs)
  have hdr : ∀ s ∈ l.drop (i + 1), goodS s := fun s hs => h s (List.mem_of_mem_drop hs)
  have hpl : (l.take i).length = i := by rw [List.length_take]; omega
  obtain ⟨X, hX⟩ : ∃ X, X = headB l[i] ++ (flN (bs l[i].f1) f m 32 ++ (le4N (sumN (bs l[i].f1)) ++ allB (l.drop (i + 1)))) := ⟨_, rfl⟩
  have hs := secE_burst hg f m hf hne (allB (l.drop (i + 1)))
  rw [← hX] at hs ⊢
  have hXne : X ≠ [] := by rw [hX]; simp [headB]
  have hXlt : ∀ c ∈ X, c < 256 := by
    intro c hc
    rw [hX] at hc
    simp only [headB, List.cons_append, List.mem_cons, List.mem_append] at hc
    rcases hc with rfl | hc | hc | hc | hc
    · have := hg.2.1; omega
    · exact vb_lt _ c hc
    · exact flN_lt (bs_lt _) f m 32 c hc
    · exact le4N_lt _ c hc
    · exact allB_lt _ hdr c hc
  rw [show fileB 2 (l.take i) ++ X = [68, 73, 79, 82] ++ (2 :: (allB (l.take i) ++ X)) by simp [fileB], getM_dior _ (fun c hc => by
    rcases List.mem_cons.1 hc with rfl | hc
    · decide
    · rcases List.mem_append.1 hc with hc | hc
      · exact allB_lt _ hpre c hc
      · exact hXlt c hc)]
  simp only [getE]
  have hal := allB_len (l.take i)
  have hXl : 0 < X.length := List.length_pos_iff.2 hXne
  rw [if_neg (by omega), show (allB (l.take i) ++ X).length = (l.take i).length + ((allB (l.take i) ++ X).length - (l.take i).length - 1 + 1) by rw [List.length_append]; omega,
    secsE_pre _ _ [] X hpre hXne (by simp; omega)]
  simp only [secsE]
  rw [if_neg hXne, if_neg (by rw [List.nil_append, hpl]; omega), hs]
theorem allB_app : ∀ (l m : List S52), allB (l ++ m) = allB l ++ allB m
  | [], m => rfl
  | s :: l, m => by rw [List.cons_append, allB, allB, allB_app l m, List.append_assoc]
theorem allB_split {l : List S52} (i : Nat) (hi : i < l.length) : allB l = allB (l.take i) ++ (headB l[i] ++ (bs l[i].f1 ++ (le4N (sumN (bs l[i].f1)) ++ allB (l.drop (i + 1))))) := by
  have e : l = l.take i ++ l[i] :: l.drop (i + 1) := by rw [← List.drop_eq_getElem_cons hi, List.take_append_drop]
  have : allB l = allB (l.take i ++ l[i] :: l.drop (i + 1)) := by rw [← e]
  rw [this, allB_app]
  simp [allB, secB, headB]
theorem allB_upto {l : List S52} (i : Nat) (hi : i < l.length) : allB (l.take (i + 1)) = allB (l.take i) ++ (headB l[i] ++ (bs l[i].f1 ++ le4N (sumN (bs l[i].f1)))) := by
  rw [List.take_succ_eq_append_getElem hi, allB_app]
  simp [allB, secB, headB]
end Go.Proofs.Ytdjpelcdijpihaa.Pure
