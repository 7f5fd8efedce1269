/- A part of the proof of the claim: what it uses of the text FrameRefPutM. -/
import Derived.Test.YtdjpelcdijpihaaXFrameRefPut
namespace Go.Proofs.Ytdjpelcdijpihaa.Pure
open Go.RowKit Go.Proofs.Ytdjpelcdijpihaa.Print Go.Proofs.Ytdjpelcdijpihaa.PrintF Go.Proofs.YtdjpelcdijpihaaW.PrintWords Go.Proofs.YtdjpelcdijpihaaW.PrintLast
theorem putL_refM (l : List S52) (hl : l.length ≤ 8) (M : Nat) (hM : M ≤ 16777216) (hp : ∀ s ∈ l, s.f1.size ≤ M) : ∀ (d k i : Nat) (acc : List UInt8), l.length - i = d → i ≤ l.length → 2 * d + M + 100 < k → acc.length ≤ 100 + 16777300 * i →
  dioramaref04_Put.l0 k l ⟨acc.toArray⟩ (i : Int) = some (⟨(putL (l.drop i) acc).1.toArray⟩, (putL (l.drop i) acc).2)
 | 0, k + 1, i, acc, hd, hi, hk, ha => by
  rw [dioramaref04_Put.l0, if_neg (by omega), List.drop_of_length_le (by omega)]
  rfl
 | d + 1, k + 1 + 1, i, acc, hd, hi, hk, ha => by
  have hlt : i < l.length := by omega
  have hrd : rd_T52 l (i : Int) = l[i] := by
   unfold rd_T52
   rw [List.getD_eq_getElem?_getD, Int.toNat_natCast, List.getElem?_eq_getElem hlt]
   rfl
  have hsz := hp l[i] (List.getElem_mem hlt)
  rw [dioramaref04_Put.l0, if_pos (by omega), if_pos (by omega), hrd, List.drop_eq_getElem_cons hlt]
  have hj : (if l[i].f0 < 1 then dioramaref04_Put.j2 (k + 1) l ⟨acc.toArray⟩ (i : Int) true else dioramaref04_Put.j2 (k + 1) l ⟨acc.toArray⟩ (i : Int) (decide (l[i].f0 > 255))) = dioramaref04_Put.j2 (k + 1) l ⟨acc.toArray⟩ (i : Int) (decide (l[i].f0 < 1 ∨ 255 < l[i].f0)) := by
   split
   ·rename_i h; rw [decide_eq_true (Or.inl h)]
   ·rename_i h
    congr 1
    simp only [decide_eq_decide]
    omega
  rw [hj, putL]
  by_cases hb : l[i].f0 < 1 ∨ 255 < l[i].f0
  ·rw [decide_eq_true hb, if_pos hb, dioramaref04_Put.j2, if_pos rfl]
  ·have hs : sumN (bs l[i].f1) < 4294967296 := sumN_lt _
   have htl := tail_len l[i].f1
   rw [decide_eq_false hb, if_neg hb, dioramaref04_Put.j2, if_neg Bool.false_ne_true, if_pos (by omega), if_pos (by omega), hrd, if_neg (by omega), if_neg (by omega), Option.bind_some,
    show IntKind.u64.wrap (l[i].f1.size : Int) = (l[i].f1.size : Int) by rw [IntKind.wrap_u64]; omega, ref01Put k _ (by omega) (by omega), Option.bind_some]
   have hv := vb_len l[i].f1.size
   have hsa : (strOfNums (ints (vb l[i].f1.size))).size = (vb l[i].f1.size).length := by rw [strOfNums_size]; simp [ints]
   have hsb : (strOfNums [l[i].f0 % 256]).size = 1 := by rw [strOfNums_size]; rfl
   have hsc : (strOfNums (Pure.le4 (sumN (bs l[i].f1)))).size = 4 := by rw [strOfNums_size]; rfl
   have hacc : (⟨acc.toArray⟩ : ByteArray).size = acc.length := by simp [ByteArray.size]
   rw [if_pos (by omega), if_pos (by rw [ByteArray.size_append]; omega), refSum_eq k _ (by omega) (by omega), Option.bind_some, refPut_eq k _ (by omega) (by omega), Option.bind_some,
    if_pos (by rw [ByteArray.size_append, ByteArray.size_append]; omega), if_pos (by rw [ByteArray.size_append, ByteArray.size_append, ByteArray.size_append]; omega), join_eq,
    wrap_inc (by omega) (by omega), show ((i : Int) + 1) = ((i + 1 : Nat) : Int) by omega,
    putL_refM l hl M hM hp d k (i + 1) _ (by omega) (by omega) (by omega) (by simp only [List.length_append, List.length_cons, List.length_nil]; omega)]
theorem refFramePut_eqM (M : Nat) (hM : M ≤ 16777216) (k : Nat) (hk : M + 200 < k) (magic : ByteArray) (version : Int) (l : List S52) (hp : ∀ s ∈ l, s.f1.size ≤ M) : dioramaref04_Put.f k magic version l = frame_Put.f magic version l := by
 obtain ⟨k, rfl⟩ : ∃ k', k = k' + 1 := ⟨k - 1, by omega⟩
 unfold dioramaref04_Put.f frame_Put.f
 by_cases hm : magic.size = 4
 ·rw [if_pos (by omega), if_neg (show ¬ magic.size ≠ 4 by omega)]
  have hj : (if version < 1 then dioramaref04_Put.j0 (k + 1) magic version l true else dioramaref04_Put.j0 (k + 1) magic version l (decide (version > 255))) = dioramaref04_Put.j0 (k + 1) magic version l (decide (version < 1 ∨ 255 < version)) := by
   split
   ·rename_i h; rw [decide_eq_true (Or.inl h)]
   ·rename_i h
    congr 1
    simp only [decide_eq_decide]
    omega
  rw [hj]
  by_cases hb : version < 1 ∨ 255 < version
  ·rw [decide_eq_true hb, if_pos hb, dioramaref04_Put.j0, if_pos rfl]
  ·rw [decide_eq_false hb, if_neg hb, dioramaref04_Put.j0, if_neg Bool.false_ne_true]
   by_cases h8 : 8 < l.length
   ·rw [if_pos (by omega), if_pos h8]
   ·have h1 : magic ++ strOfNums [version % 256] = ⟨(magic.data.toList ++ [idN version]).toArray⟩ := by
     apply ByteArray.ext
     apply Array.ext'
     rw [ByteArray.data_append, Array.toList_append, strOfNums_data]
     rfl
    have h2 : magic.data.toList.length = 4 := by rw [← hm]; exact Array.length_toList
    rw [if_neg (by omega), if_neg h8, Option.bind_some, if_pos (by rw [strOfNums_size]; simp; omega), h1]
    have h3 := putL_refM l (by omega) M hM hp l.length k 0 (magic.data.toList ++ [idN version]) (by omega) (by omega) (by omega) (by simp [h2])
    rw [List.drop_zero] at h3
    exact h3
 ·rw [if_neg (by omega), if_pos (show magic.size ≠ 4 by omega)]
end Go.Proofs.Ytdjpelcdijpihaa.Pure
