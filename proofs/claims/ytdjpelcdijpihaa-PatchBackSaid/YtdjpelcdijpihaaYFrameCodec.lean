/- A part of the proof of the claim: what it uses of the text FrameCodec. -/
import Derived.Test.YtdjpelcdijpihaaYFrameBase
namespace Go.Proofs.Ytdjpelcdijpihaa.PrintF
open Go.RowKit Go.Proofs.Ytdjpelcdijpihaa.Print Go.Proofs.YtdjpelcdijpihaaW.PrintWords Go.Proofs.YtdjpelcdijpihaaW.PrintLast
theorem vb_gv : ∀ (j i n x : Nat) (q : List Nat), i + j = 9 → x * 128 ^ i < 18446744073709551616 → (0 < i → x ≠ 0) → gv i n (vbN (j + 1) x ++ q) = .ok (n + x * 128 ^ i, q) := by
 intro j
 induction j with
 | zero =>
  intro i n x q hij hx h0
  obtain rfl : i = 9 := by omega
  have e : (128 : Nat) ^ 9 = 9223372036854775808 := by decide
  rw [e] at hx
  have h1 : x ≤ 1 := by omega
  have h2 := h0 (by omega)
  rw [vbN, if_pos (by omega), List.cons_append, List.nil_append, gv, if_neg (by omega), if_pos (by omega)]
 | succ j ih =>
  intro i n x q hij hx h0
  rw [vbN]
  by_cases h1 : x < 128
  ·rw [if_pos h1, List.cons_append, List.nil_append, gv, if_neg (by intro h; rcases h with h | h; exact absurd h.1 (by omega); exact h0 h.2 h.1), if_pos h1]
  ·have h3 : x / 128 * 128 ^ (i + 1) ≤ x * 128 ^ i := by
    rw [Nat.pow_succ, Nat.mul_comm (128 ^ i), ← Nat.mul_assoc]
    exact Nat.mul_le_mul_right _ (Nat.div_mul_le_self x 128)
   rw [if_neg h1, List.cons_append, gv, if_neg (by omega), if_neg (by omega), ih (i + 1) _ (x / 128) q (by omega) (by omega) (fun _ => by omega)]
   congr 2
   rw [show (128 + x % 128) % 128 = x % 128 by omega, Nat.pow_succ, Nat.add_assoc, Nat.mul_comm (128 ^ i) 128, ← Nat.mul_assoc, ← Nat.add_mul]
   congr 2
   omega
theorem gv_put (n : Nat) (q : List Nat) (h : n < 18446744073709551616) : gv 0 0 (vb n ++ q) = .ok (n, q) := by
 have := vb_gv 9 0 0 n q (by omega) (by simpa using h) (by omega)
 simpa [vb] using this
def toN (l : List UInt8) : List Nat := l.map UInt8.toNat
theorem toN_u8s {l : List Nat} (h : ∀ c ∈ l, c < 256) : toN (u8s l) = l := by
 simp only [toN, u8s, List.map_map]
 apply List.ext_getElem
 ·simp
 ·intro i h1 h2
  have := h _ (List.getElem_mem h2)
  simp
  omega
theorem u8s_toN (l : List UInt8) : u8s (toN l) = l := by
 simp only [toN, u8s, List.map_map]
 apply List.ext_getElem
 ·simp
 ·intro i h1 h2
  simp
theorem u8s_append (l m : List Nat) : u8s (l ++ m) = u8s l ++ u8s m := by simp [u8s]
theorem toN_append (l m : List UInt8) : toN (l ++ m) = toN l ++ toN m := by simp [toN]
def secB (s : S52) : List Nat := s.f0.toNat :: (vb s.f1.size ++ (bs s.f1 ++ le4N (sumN (bs s.f1))))
def goodS (s : S52) : Prop := 1 ≤ s.f0 ∧ s.f0 ≤ 255 ∧ s.f1.size ≤ 16777216
theorem secB_lt {s : S52} (h : goodS s) : ∀ c ∈ secB s, c < 256 := by
 intro c hc
 simp only [secB, List.mem_cons, List.mem_append] at hc
 rcases hc with rfl | hc | hc | hc
 ·have := h.1; have := h.2.1; omega
 ·exact vb_lt _ c hc
 ·exact bs_lt _ c hc
 ·exact le4N_lt _ c hc
theorem put_step {s : S52} (h : goodS s) (acc : List UInt8) : acc ++ [idN s.f0] ++ tailN s.f1 = acc ++ u8s (secB s) := by
 have e : idN s.f0 = UInt8.ofNat s.f0.toNat := by
  unfold idN
  rw [Int.emod_eq_of_lt (by have := h.1; omega) (by have := h.2.1; omega)]
 have e2 : s.f1.data.toList = u8s (bs s.f1) := (u8s_toN s.f1.data.toList).symm
 rw [e, tailN, e2]
 simp [u8s, secB]
theorem le4N_len (n : Nat) : (le4N n).length = 4 := rfl
theorem secE_put {s : S52} (h : goodS s) (q : List Nat) : secE (secB s ++ q) = .ok (s, q) := by
 have h1 := h.1
 have h3 := h.2.2
 simp only [secB, List.cons_append, secE]
 rw [if_neg (by omega), List.append_assoc, gv_put _ _ (by omega)]
 simp only
 have hlen : (bs s.f1).length = s.f1.size := bs_length _
 rw [if_neg (by omega), if_neg (by simp only [List.length_append, le4N_len, hlen]; omega), List.append_assoc]
 have ht : (bs s.f1 ++ (le4N (sumN (bs s.f1)) ++ q)).take s.f1.size = bs s.f1 := by rw [← hlen, List.take_left]
 have hd : (bs s.f1 ++ (le4N (sumN (bs s.f1)) ++ q)).drop s.f1.size = le4N (sumN (bs s.f1)) ++ q := by rw [← hlen, List.drop_left]
 have hd4 : (bs s.f1 ++ (le4N (sumN (bs s.f1)) ++ q)).drop (s.f1.size + 4) = q := by
  rw [← List.drop_drop, hd, ← le4N_len (sumN (bs s.f1)), List.drop_left]
 rw [ht, hd, hd4, if_pos (by rw [← le4N_len (sumN (bs s.f1)), List.take_left]), mkB_bs, Int.toNat_of_nonneg (by omega)]
theorem secB_ne (s : S52) : secB s ≠ [] := by simp [secB]
def allB : List S52 → List Nat
 | [] => []
 | s :: l => secB s ++ allB l
theorem putL_all : ∀ (l : List S52) (acc : List UInt8), (∀ s ∈ l, goodS s) → putL l acc = (acc ++ u8s (allB l), 0)
 | [], acc, _ => by simp [putL, allB, u8s]
 | s :: l, acc, h => by
  have hs := h s (by simp)
  rw [putL, if_neg (by have := hs.1; have := hs.2.1; omega), if_neg (by have := hs.2.2; omega), put_step hs, putL_all l _ (fun x hx => h x (by simp [hx])), allB, u8s_append, List.append_assoc]
theorem secsE_put : ∀ (l : List S52) (m : Nat) (acc : List S52), (∀ s ∈ l, goodS s) → l.length ≤ m → acc.length + l.length ≤ 8 → secsE m acc (allB l) = .ok (acc ++ l)
 | [], 0, acc, _, _, _ => by simp [secsE]
 | [], m + 1, acc, _, _, _ => by simp [secsE, allB]
 | s :: l, m + 1, acc, h, hm, ha => by
  have hne : ¬ allB (s :: l) = [] := fun h2 => secB_ne s (List.append_eq_nil_iff.1 h2).1
  simp only [secsE, if_neg hne, if_neg (show ¬ acc.length = 8 by simp at ha; omega)]
  rw [show allB (s :: l) = secB s ++ allB l from rfl, secE_put (h s (by simp))]
  simp only
  rw [secsE_put l m _ (fun x hx => h x (by simp [hx])) (by simp at hm; omega) (by simp at ha ⊢; omega)]
  simp
theorem allB_len : ∀ l : List S52, l.length ≤ (allB l).length
 | [] => by simp
 | s :: l => by
  have := allB_len l
  simp only [allB, List.length_append, List.length_cons]
  have : (secB s).length ≠ 0 := by simp [secB]
  omega
end Go.Proofs.Ytdjpelcdijpihaa.PrintF
