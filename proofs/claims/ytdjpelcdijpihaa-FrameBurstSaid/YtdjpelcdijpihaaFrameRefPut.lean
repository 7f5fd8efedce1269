/- The reference's Put answers as frame.Put does, where the sections are few and short. -/
import Derived.Test.YtdjpelcdijpihaaPrintF6
import Derived.Test.YtdjpelcdijpihaaHandFrame
namespace Go.Proofs.Ytdjpelcdijpihaa.Pure
open Go.RowKit Go.Proofs.Ytdjpelcdijpihaa.Print Go.Proofs.Ytdjpelcdijpihaa.PrintF Go.Proofs.YtdjpelcdijpihaaW.PrintWords Go.Proofs.YtdjpelcdijpihaaW.PrintLast
theorem strOf_cons (a : Int) (l : List Int) : strOfNums [a] ++ strOfNums l = strOfNums (a :: l) := by
  apply ByteArray.ext
  apply Array.ext'
  rw [ByteArray.data_append, Array.toList_append, strOfNums_data, strOfNums_data, strOfNums_data]
  rfl
theorem ref01Put_eq : ∀ (j k n : Nat), n < 128 ^ (j + 1) → n < 18446744073709551616 → j < k → j ≤ 100 → dioramaref01_Put.f k (n : Int) = some (strOfNums (ints (vbN (j + 1) n)))
  | 0, k + 1, n, h, h2, hk, hj => by
    have h0 : n < 128 := by simpa using h
    simp only [dioramaref01_Put.f]
    rw [if_pos (by omega), vbN, if_pos h0, show (n : Int) % 256 = n by omega]
    rfl
  | j + 1, k + 1, n, h, h2, hk, hj => by
    simp only [dioramaref01_Put.f]
    rw [vbN]
    by_cases h1 : n < 128
    · rw [if_pos (by omega), if_pos h1, show (n : Int) % 256 = n by omega]
      rfl
    · have e1 : IntKind.u64.wrap (128 + (n : Int).tmod 128) % 256 = ((128 + n % 128 : Nat) : Int) := by
        rw [show ((n : Int).tmod 128) = ((n % 128 : Nat) : Int) from rfl, IntKind.wrap_u64]
        omega
      have e2 : IntKind.u64.wrap ((n : Int).tdiv 128) = ((n / 128 : Nat) : Int) := by
        rw [show ((n : Int).tdiv 128) = ((n / 128 : Nat) : Int) from rfl, IntKind.wrap_u64]
        omega
      have hl := vbN_len (j + 1) (n / 128)
      rw [if_neg (by omega), Option.bind_some, e1, e2, ref01Put_eq j k (n / 128) (by rw [Nat.pow_succ] at h; omega) (by omega) (by omega) (by omega), Option.bind_some,
        if_pos (by rw [strOfNums_size, strOfNums_size]; simp only [ints, List.length_map, List.length_cons, List.length_nil]; omega), if_neg h1, strOf_cons]
      rfl
theorem ref01Put (k n : Nat) (h : n < 18446744073709551616) (hk : 9 < k) : dioramaref01_Put.f k (n : Int) = some (strOfNums (ints (vb n))) :=
  ref01Put_eq 9 k n (by
    have : (18446744073709551616 : Nat) ≤ 128 ^ (9 + 1) := by decide
    omega) h hk (by omega)
theorem join_eq (acc : List UInt8) (s : S52) : (⟨acc.toArray⟩ : ByteArray) ++ (((strOfNums [s.f0 % 256] ++ strOfNums (ints (vb s.f1.size))) ++ s.f1) ++ strOfNums (Pure.le4 (sumN (bs s.f1)))) = ⟨(acc ++ [idN s.f0] ++ tailN s.f1).toArray⟩ := by
  apply ByteArray.ext
  apply Array.ext'
  rw [le4_ints]
  simp only [ByteArray.data_append, Array.toList_append, strOf_ints, tailN, List.append_assoc]
  rw [strOfNums_data]
  rfl
theorem tail_len (p : ByteArray) : (tailN p).length ≤ p.size + 14 := by
  have := vb_len p.size
  have h2 : p.data.toList.length = p.size := Array.length_toList
  simp only [tailN, u8s, List.length_append, List.length_map, h2, le4N, List.length_cons, List.length_nil]
  omega
theorem putL_ref (l : List S52) (hl : l.length ≤ 8) (hp : ∀ s ∈ l, s.f1.size ≤ 1000) : ∀ (d k i : Nat) (acc : List UInt8), l.length - i = d → i ≤ l.length → 2 * d + 1100 < k → acc.length ≤ 100 + 1100 * i →
    dioramaref04_Put.l0 k l ⟨acc.toArray⟩ (i : Int) = some (⟨(putL (l.drop i) acc).1.toArray⟩, (putL (l.drop i) acc).2)
  | 0, k + 1, i, acc, hd, hi, hk, ha => by
    rw [dioramaref04_Put.l0, if_neg (by omega), List.drop_of_length_le (by omega)]
    rfl
  | d + 1, k + 1 + 1, i, acc, hd, hi, hk, ha => by
    have hlt : i < l.length := by omega
    have hrd : rd_T52 l (i : Int) = l[i] := by
      unfold rd_T52
      rw [List.getD_eq_getElem?_getD, Int.toNat_natCast, List.getElem?_eq_getElem hlt]
      rfl
    have hsz := hp l[i] (List.getElem_mem hlt)
    rw [dioramaref04_Put.l0, if_pos (by omega), if_pos (by omega), hrd, List.drop_eq_getElem_cons hlt]
    have hj : (if l[i].f0 < 1 then dioramaref04_Put.j2 (k + 1) l ⟨acc.toArray⟩ (i : Int) true else dioramaref04_Put.j2 (k + 1) l ⟨acc.toArray⟩ (i : Int) (decide (l[i].f0 > 255))) = dioramaref04_Put.j2 (k + 1) l ⟨acc.toArray⟩ (i : Int) (decide (l[i].f0 < 1 ∨ 255 < l[i].f0)) := by
      split
      · rename_i h; rw [decide_eq_true (Or.inl h)]
      · rename_i h
        congr 1
        simp only [decide_eq_decide]
        omega
    rw [hj, putL]
    by_cases hb : l[i].f0 < 1 ∨ 255 < l[i].f0
    · rw [decide_eq_true hb, if_pos hb, dioramaref04_Put.j2, if_pos rfl]
    · have hs : sumN (bs l[i].f1) < 4294967296 := sumN_lt _
      have htl := tail_len l[i].f1
      rw [decide_eq_false hb, if_neg hb, dioramaref04_Put.j2, if_neg Bool.false_ne_true, if_pos (by omega), if_pos (by omega), hrd, if_neg (by omega), if_neg (by omega), Option.bind_some,
        show IntKind.u64.wrap (l[i].f1.size : Int) = (l[i].f1.size : Int) by rw [IntKind.wrap_u64]; omega, ref01Put k _ (by omega) (by omega), Option.bind_some]
      have hv := vb_len l[i].f1.size
      have hsa : (strOfNums (ints (vb l[i].f1.size))).size = (vb l[i].f1.size).length := by rw [strOfNums_size]; simp [ints]
      have hsb : (strOfNums [l[i].f0 % 256]).size = 1 := by rw [strOfNums_size]; rfl
      have hsc : (strOfNums (Pure.le4 (sumN (bs l[i].f1)))).size = 4 := by rw [strOfNums_size]; rfl
      have hacc : (⟨acc.toArray⟩ : ByteArray).size = acc.length := by simp [ByteArray.size]
      rw [if_pos (by omega), if_pos (by rw [ByteArray.size_append]; omega), refSum_eq k _ (by omega) (by omega), Option.bind_some, refPut_eq k _ (by omega) (by omega), Option.bind_some,
        if_pos (by rw [ByteArray.size_append, ByteArray.size_append]; omega), if_pos (by rw [ByteArray.size_append, ByteArray.size_append, ByteArray.size_append]; omega), join_eq,
        wrap_inc (by omega) (by omega), show ((i : Int) + 1) = ((i + 1 : Nat) : Int) by omega,
        putL_ref l hl hp d k (i + 1) _ (by omega) (by omega) (by omega) (by simp only [List.length_append, List.length_cons, List.length_nil]; omega)]
theorem refFramePut_eq (k : Nat) (hk : 1200 < k) (magic : ByteArray) (version : Int) (l : List S52) (hp : ∀ s ∈ l, s.f1.size ≤ 1000) : dioramaref04_Put.f k magic version l = frame_Put.f magic version l := by
  obtain ⟨k, rfl⟩ : ∃ k', k = k' + 1 := ⟨k - 1, by omega⟩
  unfold dioramaref04_Put.f frame_Put.f
  by_cases hm : magic.size = 4
  · rw [if_pos (by omega), if_neg (show ¬ magic.size ≠ 4 by omega)]
    have hj : (if version < 1 then dioramaref04_Put.j0 (k + 1) magic version l true else dioramaref04_Put.j0 (k + 1) magic version l (decide (version > 255))) = dioramaref04_Put.j0 (k + 1) magic version l (decide (version < 1 ∨ 255 < version)) := by
      split
      · rename_i h; rw [decide_eq_true (Or.inl h)]
      · rename_i h
        congr 1
        simp only [decide_eq_decide]
        omega
    rw [hj]
    by_cases hb : version < 1 ∨ 255 < version
    · rw [decide_eq_true hb, if_pos hb, dioramaref04_Put.j0, if_pos rfl]
    · rw [decide_eq_false hb, if_neg hb, dioramaref04_Put.j0, if_neg Bool.false_ne_true]
      by_cases h8 : 8 < l.length
      · rw [if_pos (by omega), if_pos h8]
      · have h1 : magic ++ strOfNums [version % 256] = ⟨(magic.data.toList ++ [idN version]).toArray⟩ := by
          apply ByteArray.ext
          apply Array.ext'
          rw [ByteArray.data_append, Array.toList_append, strOfNums_data]
          rfl
        have h2 : magic.data.toList.length = 4 := by rw [← hm]; exact Array.length_toList
        rw [if_neg (by omega), if_neg h8, Option.bind_some, if_pos (by rw [strOfNums_size]; simp; omega), h1]
        have h3 := putL_ref l (by omega) hp l.length k 0 (magic.data.toList ++ [idN version]) (by omega) (by omega) (by omega) (by simp [h2])
        rw [List.drop_zero] at h3
        exact h3
  · rw [if_neg (by omega), if_pos (show magic.size ≠ 4 by omega)]
end Go.Proofs.Ytdjpelcdijpihaa.Pure
