/- A part of the proof of the claim: what it uses of the text FrameRefG. -/
import Derived.Test.YtdjpelcdijpihaaVPrintG7
import Derived.Test.YtdjpelcdijpihaaVFrameCodec
import Derived.Test.YtdjpelcdijpihaaVVarGetRef
namespace Go.Proofs.Ytdjpelcdijpihaa.PrintF
open Go.RowKit Go.Proofs.Ytdjpelcdijpihaa.Print Go.Proofs.YtdjpelcdijpihaaW.PrintWords Go.Proofs.YtdjpelcdijpihaaW.PrintLast
theorem refL (b : ByteArray) (hb : b.size ≤ 140737488355328) (h5 : 4 < b.size) : ∀ (m k p : Nat) (acc : List S52), p ≤ b.size → b.size - p ≤ m → 4 * b.size + 24 + 2 * m < k → acc.length ≤ 8 →
  dioramaref04_Get.l0 k b acc (p : Int) = some (match secsE m acc ((bs b).drop p) with | .error e => (0, [], e) | .ok l => (wrap64 (bt b 4), l, 0)) := by
 intro m
 induction m with
 | zero =>
  intro k p acc hp hm hk ha
  obtain ⟨k, rfl⟩ : ∃ m, k = m + 1 := ⟨k - 1, by omega⟩
  simp only [dioramaref04_Get.l0, secsE]
  rw [if_neg (by omega), if_pos (by omega)]
 | succ m ih =>
  intro k p acc hp hm hk ha
  obtain ⟨k, rfl⟩ : ∃ m, k = m + 1 := ⟨k - 1, by omega⟩
  have hle : ((bs b).drop p = []) ↔ p = b.size := by
   rw [List.drop_eq_nil_iff, bs_length]; omega
  simp only [dioramaref04_Get.l0, secsE]
  by_cases hlt : p < b.size
  ·rw [if_pos (show (p : Int) < (b.size : Int) by omega)]
   simp only [if_neg (show ¬ (bs b).drop p = [] from fun h => by have := hle.1 h; omega)]
   by_cases h8 : acc.length = 8
   ·simp only [if_pos h8]
    rw [if_pos (by omega)]
   ·simp only [if_neg h8]
    rw [if_neg (by omega), if_pos (by omega)]
    obtain ⟨c, hc, hbt, hd⟩ := bt_drop b p hlt
    rw [hbt, hd]
    simp only [secE]
    by_cases h0 : c = 0
    ·simp only [if_pos h0]
     rw [if_pos (by omega)]
    ·simp only [if_neg h0]
     rw [if_neg (by omega), wrap_id (by omega) (by omega), show (p : Int) + 1 = ((p + 1 : Nat) : Int) by omega, refGet_eq k b (p + 1) hb (by omega) (by omega), Option.bind_some]
     cases hg : gv 0 0 ((bs b).drop (p + 1)) with
     | error e =>
      have he : e ≠ 0 := by rcases gv_error _ _ _ _ hg with h | h <;> rw [h] <;> decide
      exact if_neg he
     | ok x =>
      obtain ⟨n, q⟩ := x
      obtain ⟨t, ht, hq⟩ := gv_suffix _ _ _ _ _ hg
      rw [List.length_drop, bs_length] at ht
      rw [List.drop_drop] at hq
      have hql : q.length = b.size - (p + 1 + (t + 1)) := by rw [hq, List.length_drop, bs_length]
      have hz : b.size - q.length = p + 1 + (t + 1) := by omega
      have htold : told b.size (.ok (n, q)) = ((n : Int), ((p + 1 + (t + 1) : Nat) : Int), 0) := by
       simp only [told]
       rw [hz]
      rw [htold]
      simp only [if_true]
      by_cases hn : 16777216 < n
      ·simp only [if_pos hn]
       rw [if_pos (by omega)]
      ·simp only [if_neg hn]
       rw [if_neg (by omega), wrap_id (x := (n : Int)) (by omega) (by omega), wrap_id (x := ((p + 1 + (t + 1) : Nat) : Int) + (n : Int)) (by omega) (by omega)]
       generalize hs : p + 1 + (t + 1) = st at *
       rw [wrap_id (x := (b.size : Int) - ((st : Int) + (n : Int))) (by omega) (by omega)]
       by_cases hl : q.length < n + 4
       ·simp only [if_pos hl]
        rw [if_pos (by omega)]
       ·simp only [if_neg hl]
        rw [if_neg (by omega), if_pos (by omega), wrap_id (x := (st : Int) + (n : Int) + 4) (by omega) (by omega), if_pos (by omega), if_pos (by omega), if_pos (by omega), if_pos (by omega), if_pos (by omega)]
        rw [show ((st : Int) + (n : Int)).toNat = st + n by omega, show ((st : Int) + (n : Int) + 4).toNat = st + n + 4 by omega, Int.toNat_natCast]
        have hpay : b.extract st (st + n) = mkB (q.take n) := by
         rw [extract_mkB, List.drop_take, ← hq, show st + n - st = n by omega]
        have hsum : b.extract (st + n) (st + n + 4) = mkB ((q.drop n).take 4) := by
         rw [extract_mkB, List.drop_take, show st + n + 4 - (st + n) = 4 by omega, hq, List.drop_drop]
        have hqlt : ∀ c ∈ q, c < 256 := by rw [hq]; exact drop_lt (bs_lt b) _
        rw [hpay, hsum, refSum_eq k _ (by rw [mkB_size, List.length_take]; omega) (by rw [mkB_size, List.length_take]; omega), Option.bind_some, bs_mkB (take_lt hqlt n),
         Pure.refPut_eq k _ ⟨by omega, by have := sumN_lt (q.take n); omega⟩ (by omega), Option.bind_some, le4_ints]
        have hstr : strOfNums (ints (le4N (sumN (q.take n)))) = mkB (le4N (sumN (q.take n))) := strOf_mkB _
        rw [hstr]
        by_cases hsm : (q.drop n).take 4 = le4N (sumN (q.take n))
        ·simp only [if_pos hsm]
         rw [if_pos (by rw [hsm]), if_pos (by omega), wrap_id (x := (c : Int)) (by omega) (by omega), show (st : Int) + (n : Int) + 4 = ((st + n + 4 : Nat) : Int) by omega,
          ih k (st + n + 4) _ (by omega) (by omega) (by omega) (by simp; omega)]
         rw [hq, List.drop_drop, Nat.add_assoc]
        ·simp only [if_neg hsm]
         rw [if_neg (fun h => hsm (mkB_inj (take_lt (drop_lt hqlt n) 4) (le4N_lt _) ((toList_iff _ _).1 h)))]
  ·rw [if_neg (show ¬ (p : Int) < (b.size : Int) by omega), if_pos (by omega)]
   simp only [if_pos (hle.2 (by omega))]
theorem refFrameGet_eq (k : Nat) (magic b : ByteArray) (hb : b.size ≤ 140737488355328) (hk : 6 * b.size + 40 < k) : dioramaref04_Get.f k magic b = some (tellG (getM magic b)) := by
 obtain ⟨k, rfl⟩ : ∃ m, k = m + 1 := ⟨k - 1, by omega⟩
 have h6 : dioramaref04_Get.j0 (k + 1) b true = some (tellG (.error 6)) := by
  simp only [dioramaref04_Get.j0]
  rw [if_pos trivial]
  rfl
 unfold dioramaref04_Get.f getM
 by_cases h4 : magic.size = 4
 ·rw [if_pos (by omega)]
  by_cases hs : b.size < 4
  ·rw [if_pos (by omega), h6, if_neg (fun h => by have := h.2.length_le; rw [bs_length, bs_length] at this; omega)]
  ·rw [if_neg (by omega), if_pos (by decide), if_pos (by omega)]
   by_cases hp : bs magic <+: bs b
   ·have he : b.extract 0 4 = magic := by
     rw [extract_mkB, List.drop_zero, ← h4, ← bs_length magic, ← List.prefix_iff_eq_take.1 hp, mkB_bs]
    rw [he, if_pos ⟨h4, hp⟩, show (magic.toList != magic.toList) = false by simp]
    simp only [dioramaref04_Get.j0]
    rw [if_neg (by simp)]
    by_cases hb4 : b.size = 4
    ·rw [if_pos (by omega), List.drop_of_length_le (by rw [bs_length]; omega)]
     rfl
    ·rw [if_neg (by omega), if_pos (by omega)]
     obtain ⟨c, hc, hbt, hd⟩ := bt_drop b 4 (by omega)
     have hbt4 : bt b 4 = (c : Int) := hbt
     rw [hbt4, hd]
     simp only [getE]
     by_cases hz : c = 0
     ·simp only [if_pos hz]
      rw [if_pos (by omega)]
      rfl
     ·simp only [if_neg hz]
      have hrl := refL b hb (by omega) (b.size - 5) k 5 [] (by omega) (by omega) (by omega) (by simp)
      rw [if_neg (by omega)]
      refine Eq.trans hrl ?_
      have hl1 : ((bs b).drop (4 + 1)).length = b.size - 5 := by rw [List.length_drop, bs_length]
      rw [hl1, hbt4, wrap_id (by omega) (by omega)]
      cases secsE (b.size - 5) [] ((bs b).drop 5) <;> rfl
   ·have he : ¬ (b.extract 0 4).toList = magic.toList := by
     intro hh
     apply hp
     rw [← (toList_iff _ _).1 hh, bs_extract, List.drop_zero]
     exact List.take_prefix _ _
    rw [if_neg (fun h => hp h.2), show ((b.extract 0 4).toList != magic.toList) = true by simpa using he, h6]
 ·rw [if_neg (by omega), h6, if_neg (fun h => h4 h.1)]
end Go.Proofs.Ytdjpelcdijpihaa.PrintF
