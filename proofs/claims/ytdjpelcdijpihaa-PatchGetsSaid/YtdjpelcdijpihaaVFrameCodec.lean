/- A part of the proof of the claim: what it uses of the texts FrameBase, FrameCodec. -/
import Derived.Test.YtdjpelcdijpihaaVFrameGet
namespace Go.Proofs.Ytdjpelcdijpihaa.PrintF
open Go.RowKit Go.Proofs.Ytdjpelcdijpihaa.Print Go.Proofs.YtdjpelcdijpihaaW.PrintWords Go.Proofs.YtdjpelcdijpihaaW.PrintLast
theorem strOf_mkB (l : List Nat) : strOfNums (ints l) = mkB l := by
 apply ByteArray.ext
 apply Array.ext'
 rw [strOf_ints]
 rfl
theorem toList_iff (a b : ByteArray) : a.toList = b.toList ↔ a = b := by
 rw [ByteArray.toList_eq, ByteArray.toList_eq]
 exact ⟨fun h => ByteArray.ext (Array.ext' h), fun h => by rw [h]⟩
theorem le4N_lt (n : Nat) : ∀ c ∈ le4N n, c < 256 := by
 intro c hc
 simp only [le4N, List.mem_cons, List.not_mem_nil, or_false] at hc
 omega
end Go.Proofs.Ytdjpelcdijpihaa.PrintF
namespace Go.Proofs.Ytdjpelcdijpihaa.PrintF
open Go.RowKit Go.Proofs.Ytdjpelcdijpihaa.Print Go.Proofs.YtdjpelcdijpihaaW.PrintWords Go.Proofs.YtdjpelcdijpihaaW.PrintLast
theorem gv_vb : ∀ (j i n : Nat) (l : List Nat) (m : Nat) (q : List Nat), i + j = 9 → (∀ c ∈ l, c < 256) → gv i n l = .ok (m, q) → ∃ x, m = n + x * 128 ^ i ∧ l = vbN (j + 1) x ++ q ∧ (0 < i → x ≠ 0) := by
 intro j
 induction j with
 | zero =>
  intro i n l m q hij hl h
  obtain rfl : i = 9 := by omega
  cases l with
  | nil => simp [gv] at h
  | cons c r =>
   rw [gv] at h
   split at h
   ·cases h
   ·rename_i hc
    have hc1 : c ≤ 1 := by omega
    have hc0 : c ≠ 0 := by omega
    rw [if_pos (by omega)] at h
    cases h
    exact ⟨c, rfl, by simp [vbN, show c < 128 by omega], fun _ => hc0⟩
 | succ j ih =>
  intro i n l m q hij hl h
  cases l with
  | nil => simp [gv] at h
  | cons c r =>
   have hc256 := hl c (by simp)
   rw [gv] at h
   split at h
   ·cases h
   ·rename_i hc
    by_cases h1 : c < 128
    ·rw [if_pos h1] at h
     cases h
     exact ⟨c, rfl, by simp [vbN, h1], fun h0 h2 => hc (.inr ⟨h2, h0⟩)⟩
    ·rw [if_neg h1] at h
     obtain ⟨x, hm, hr, hx⟩ := ih (i + 1) _ r m q (by omega) (fun d hd => hl d (by simp [hd])) h
     have hx0 := hx (by omega)
     refine ⟨c % 128 + 128 * x, ?_, ?_, fun _ => by omega⟩
     ·rw [hm, Nat.pow_succ, Nat.add_mul, Nat.add_assoc, Nat.mul_comm (128 ^ i) 128, Nat.mul_comm 128 x, Nat.mul_assoc]
     ·rw [vbN, if_neg (by omega), hr, show 128 + (c % 128 + 128 * x) % 128 = c by omega, show (c % 128 + 128 * x) / 128 = x by omega]
      rfl
theorem gv_got {l : List Nat} {n : Nat} {q : List Nat} (hl : ∀ c ∈ l, c < 256) (h : gv 0 0 l = .ok (n, q)) : l = vb n ++ q := by
 obtain ⟨x, hm, hr, _⟩ := gv_vb 9 0 0 l n q (by omega) hl h
 have : x = n := by simpa using hm.symm
 rw [hr, this]
 rfl
def toN (l : List UInt8) : List Nat := l.map UInt8.toNat
theorem toN_u8s {l : List Nat} (h : ∀ c ∈ l, c < 256) : toN (u8s l) = l := by
 simp only [toN, u8s, List.map_map]
 apply List.ext_getElem
 ·simp
 ·intro i h1 h2
  have := h _ (List.getElem_mem h2)
  simp
  omega
theorem toN_append (l m : List UInt8) : toN (l ++ m) = toN l ++ toN m := by simp [toN]
def secB (s : S52) : List Nat := s.f0.toNat :: (vb s.f1.size ++ (bs s.f1 ++ le4N (sumN (bs s.f1))))
def goodS (s : S52) : Prop := 1 ≤ s.f0 ∧ s.f0 ≤ 255 ∧ s.f1.size ≤ 16777216
theorem secE_got {l : List Nat} {s : S52} {q : List Nat} (hl : ∀ c ∈ l, c < 256) (h : secE l = .ok (s, q)) : goodS s ∧ l = secB s ++ q := by
 cases l with
 | nil => cases h
 | cons i r =>
  have hi := hl i (by simp)
  have hr : ∀ c ∈ r, c < 256 := fun c hc => hl c (by simp [hc])
  simp only [secE] at h
  split at h
  ·cases h
  ·rename_i h0
   split at h
   ·cases h
   ·rename_i n q' hg
    split at h
    ·cases h
    ·split at h
     ·cases h
     ·split at h
      ·rename_i hn hlen hsum
       cases h
       have hr2 := gv_got hr hg
       have hq' : ∀ c ∈ q', c < 256 := fun c hc => hr c (by rw [hr2]; simp [hc])
       have hsz : (mkB (q'.take n)).size = n := by rw [mkB_size, List.length_take]; omega
       have hb := bs_mkB (take_lt hq' n)
       refine ⟨⟨by show (1 : Int) ≤ (i : Int); omega, by show (i : Int) ≤ 255; omega, by show (mkB (q'.take n)).size ≤ 16777216; omega⟩, ?_⟩
       simp only [secB]
       rw [hsz, hb, ← hsum, Int.toNat_natCast, List.cons_append, List.append_assoc, List.append_assoc]
       congr 1
       rw [hr2]
       congr 1
       rw [← List.drop_drop, List.take_append_drop, List.take_append_drop]
      ·cases h
def allB : List S52 → List Nat
 | [] => []
 | s :: l => secB s ++ allB l
theorem secsE_got : ∀ (m : Nat) (acc L : List S52) (r : List Nat), r.length ≤ m → (∀ c ∈ r, c < 256) → secsE m acc r = .ok L → ∃ l, L = acc ++ l ∧ (∀ s ∈ l, goodS s) ∧ r = allB l
 | 0, acc, L, r, hm, hr, h => by
  simp only [secsE] at h
  cases h
  exact ⟨[], by simp, by simp, List.eq_nil_of_length_eq_zero (by omega)⟩
 | m + 1, acc, L, r, hm, hr, h => by
  simp only [secsE] at h
  split at h
  ·rename_i h0
   cases h
   exact ⟨[], by simp, by simp, h0⟩
  ·split at h
   ·cases h
   ·split at h
    ·cases h
    ·rename_i s q hse
     obtain ⟨hg, he⟩ := secE_got hr hse
     have hq : ∀ c ∈ q, c < 256 := fun c hc => hr c (by rw [he]; simp [hc])
     have hlen : q.length < r.length := by
      rw [he, List.length_append]
      have : (secB s).length ≠ 0 := by simp [secB]
      omega
     obtain ⟨l, hL, hgs, hq2⟩ := secsE_got m _ L q (by omega) hq h
     refine ⟨s :: l, by rw [hL]; simp, ?_, by rw [he, hq2]; rfl⟩
     intro x hx
     rcases List.mem_cons.1 hx with rfl | hx
     ·exact hg
     ·exact hgs x hx
end Go.Proofs.Ytdjpelcdijpihaa.PrintF
