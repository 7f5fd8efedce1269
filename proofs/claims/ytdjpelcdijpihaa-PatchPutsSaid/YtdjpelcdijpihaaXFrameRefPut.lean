/- A part of the proof of the claim: what it uses of the text FrameRefPut. -/
import Derived.Test.YtdjpelcdijpihaaXPrintF5
import Derived.Test.YtdjpelcdijpihaaXHandFrame
namespace Go.Proofs.Ytdjpelcdijpihaa.Pure
open Go.RowKit Go.Proofs.Ytdjpelcdijpihaa.Print Go.Proofs.Ytdjpelcdijpihaa.PrintF Go.Proofs.YtdjpelcdijpihaaW.PrintWords Go.Proofs.YtdjpelcdijpihaaW.PrintLast
theorem strOf_cons (a : Int) (l : List Int) : strOfNums [a] ++ strOfNums l = strOfNums (a :: l) := by
 apply ByteArray.ext
 apply Array.ext'
 rw [ByteArray.data_append, Array.toList_append, strOfNums_data, strOfNums_data, strOfNums_data]
 rfl
theorem ref01Put_eq : ∀ (j k n : Nat), n < 128 ^ (j + 1) → n < 18446744073709551616 → j < k → j ≤ 100 → dioramaref01_Put.f k (n : Int) = some (strOfNums (ints (vbN (j + 1) n)))
 | 0, k + 1, n, h, h2, hk, hj => by
  have h0 : n < 128 := by simpa using h
  simp only [dioramaref01_Put.f]
  rw [if_pos (by omega), vbN, if_pos h0, show (n : Int) % 256 = n by omega]
  rfl
 | j + 1, k + 1, n, h, h2, hk, hj => by
  simp only [dioramaref01_Put.f]
  rw [vbN]
  by_cases h1 : n < 128
  ·rw [if_pos (by omega), if_pos h1, show (n : Int) % 256 = n by omega]
   rfl
  ·have e1 : IntKind.u64.wrap (128 + (n : Int).tmod 128) % 256 = ((128 + n % 128 : Nat) : Int) := by
    rw [show ((n : Int).tmod 128) = ((n % 128 : Nat) : Int) from rfl, IntKind.wrap_u64]
    omega
   have e2 : IntKind.u64.wrap ((n : Int).tdiv 128) = ((n / 128 : Nat) : Int) := by
    rw [show ((n : Int).tdiv 128) = ((n / 128 : Nat) : Int) from rfl, IntKind.wrap_u64]
    omega
   have hl := vbN_len (j + 1) (n / 128)
   rw [if_neg (by omega), Option.bind_some, e1, e2, ref01Put_eq j k (n / 128) (by rw [Nat.pow_succ] at h; omega) (by omega) (by omega) (by omega), Option.bind_some,
    if_pos (by rw [strOfNums_size, strOfNums_size]; simp only [ints, List.length_map, List.length_cons, List.length_nil]; omega), if_neg h1, strOf_cons]
   rfl
theorem ref01Put (k n : Nat) (h : n < 18446744073709551616) (hk : 9 < k) : dioramaref01_Put.f k (n : Int) = some (strOfNums (ints (vb n))) :=
 ref01Put_eq 9 k n (by
  have : (18446744073709551616 : Nat) ≤ 128 ^ (9 + 1) := by decide
  omega) h hk (by omega)
theorem join_eq (acc : List UInt8) (s : S52) : (⟨acc.toArray⟩ : ByteArray) ++ (((strOfNums [s.f0 % 256] ++ strOfNums (ints (vb s.f1.size))) ++ s.f1) ++ strOfNums (Pure.le4 (sumN (bs s.f1)))) = ⟨(acc ++ [idN s.f0] ++ tailN s.f1).toArray⟩ := by
 apply ByteArray.ext
 apply Array.ext'
 rw [le4_ints]
 simp only [ByteArray.data_append, Array.toList_append, strOf_ints, tailN, List.append_assoc]
 rw [strOfNums_data]
 rfl
theorem tail_len (p : ByteArray) : (tailN p).length ≤ p.size + 14 := by
 have := vb_len p.size
 have h2 : p.data.toList.length = p.size := Array.length_toList
 simp only [tailN, u8s, List.length_append, List.length_map, h2, le4N, List.length_cons, List.length_nil]
 omega
end Go.Proofs.Ytdjpelcdijpihaa.Pure
