/- A part of the proof of the claim: what it uses of the text PurePatchPuts. -/
import Derived.Test.YtdjpelcdijpihaaYPurePatchPuts1
namespace Go.Proofs.Ytdjpelcdijpihaa.Pure
open Go.RowKit Go.Proofs.Ytdjpelcdijpihaa.Print Go.Proofs.Ytdjpelcdijpihaa.PrintF Go.Proofs.YtdjpelcdijpihaaW.PrintWords Go.Proofs.YtdjpelcdijpihaaW.PrintLast
theorem patch_awake0 : dioramalaw24_awake.f 100 = some true := by kernel_rfl
theorem leO_le {α : Type} {f : Nat → Option α} (h : ∀ k, LeO (f k) (f (k + 1))) (a : Nat) : ∀ d, LeO (f a) (f (a + d))
 | 0 => LeO.refl _
 | d + 1 => (leO_le h a d).trans (h (a + d))
theorem patch_awake (k : Nat) (hk : 100 ≤ k) : dioramalaw24_awake.f k = some true := by
 obtain ⟨d, rfl⟩ : ∃ d, k = 100 + d := ⟨k - 100, by omega⟩
 exact leO_le dioramalaw24_awake.mono 100 d _ patch_awake0
theorem g08_l0 (a : Int) (b c : List Int) (l : List ByteArray) (hl : l.length ≤ 100) : ∀ (d k i : Nat), l.length - i = d → i ≤ l.length → d < k → ∃ r, dioramaref08_Great.l0 k (i : Int) a b l c = some r ∧ (r = false → ∀ j (h : j < l.length), i ≤ j → l[j].size ≤ 500)
 | 0, k + 1, i, hd, hi, hk => by
  refine ⟨false, ?_, fun _ j h1 h2 => by omega⟩
  simp only [dioramaref08_Great.l0]
  rw [if_neg (by omega)]
 | d + 1, k + 1, i, hd, hi, hk => by
  have hlt : i < l.length := by omega
  have hrd : rdOf ByteArray.empty l (i : Int) = l[i] := by
   unfold rdOf
   rw [List.getD_eq_getElem?_getD, Int.toNat_natCast, List.getElem?_eq_getElem hlt]
   rfl
  simp only [dioramaref08_Great.l0]
  rw [if_pos (by omega), if_pos (by omega), hrd]
  by_cases hb : (l[i].size : Int) > 500
  ·exact ⟨true, by rw [if_pos hb], fun h => by cases h⟩
  ·obtain ⟨r, hr, hh⟩ := g08_l0 a b c l hl d k (i + 1) (by omega) (by omega) (by omega)
   refine ⟨r, ?_, fun h j h1 h2 => ?_⟩
   ·rw [if_neg hb, wrap_inc (by omega) (by omega), show ((i : Int) + 1) = ((i + 1 : Nat) : Int) by omega]
    exact hr
   ·rcases Nat.lt_or_ge i j with h3 | h3
    ·exact hh h j h1 (by omega)
    ·obtain rfl : i = j := by omega
     omega
theorem g08 (k : Nat) (hk : 200 < k) (x : S105) : ∃ r, dioramaref08_Great.f k x.f0 x.f1 x.f2 x.f3 = some r ∧ (r = false → smallN x) := by
 obtain ⟨k, rfl⟩ : ∃ m, k = m + 1 := ⟨k - 1, by omega⟩
 have ht : dioramaref08_Great.j0 (k + 1) true x.f0 x.f1 x.f2 x.f3 = some true := by rw [dioramaref08_Great.j0, if_pos rfl]
 unfold dioramaref08_Great.f
 by_cases h1 : (x.f1.length : Int) > 100
 ·exact ⟨true, by rw [if_pos h1]; exact ht, fun h => by cases h⟩
 by_cases h2 : (x.f2.length : Int) > 100
 ·exact ⟨true, by rw [if_neg h1, if_pos h2]; exact ht, fun h => by cases h⟩
 by_cases h3 : (x.f3.length : Int) > 300
 ·exact ⟨true, by rw [if_neg h1, if_neg h2, decide_eq_true h3]; exact ht, fun h => by cases h⟩
 obtain ⟨r, hr, hh⟩ := g08_l0 x.f0 x.f1 x.f3 x.f2 (by omega) x.f2.length k 0 (by omega) (by omega) (by omega)
 refine ⟨r, ?_, fun h => ⟨by omega, by omega, by omega, fun s hs => ?_⟩⟩
 ·rw [if_neg h1, if_neg h2, decide_eq_false h3, dioramaref08_Great.j0, if_neg Bool.false_ne_true]
  exact hr
 ·obtain ⟨j, hj, rfl⟩ := List.mem_iff_getElem.1 hs
  exact hh h j hj (by omega)
theorem rd107 {l : List S107} {n : Nat} (h : n < l.length) : rd_T107 l (n : Int) = l[n] := by
 unfold rd_T107
 rw [List.getD_eq_getElem?_getD, Int.toNat_natCast, List.getElem?_eq_getElem h]
 rfl
theorem g23_l1 (l : List S107) (i : Nat) (hi : i < l.length) (hl : l.length ≤ 60) (hs : l[i].f2.length ≤ 50) : ∀ (d k j : Nat), l[i].f2.length - j = d → j ≤ l[i].f2.length → d < k →
  dioramaref23_Great.l1 k l (i : Int) (j : Int) = some true ∨ ∃ k', k = k' + d + 1 ∧ dioramaref23_Great.l1 k l (i : Int) (j : Int) = dioramaref23_Great.l0 k' l ((i + 1 : Nat) : Int) ∧ ∀ q (h : q < l[i].f2.length), j ≤ q → l[i].f2[q].f3.size ≤ 500
 | 0, k + 1, j, hd, hj, hk => by
  refine .inr ⟨k, rfl, ?_, fun q h1 h2 => by omega⟩
  simp only [dioramaref23_Great.l1]
  rw [if_pos (by omega), if_pos (by omega), rd107 hi, if_neg (by omega), wrap_inc (by omega) (by omega), show ((i : Int) + 1) = ((i + 1 : Nat) : Int) by omega]
 | d + 1, k + 1, j, hd, hj, hk => by
  have hlt : j < l[i].f2.length := by omega
  simp only [dioramaref23_Great.l1]
  rw [if_pos (by omega), if_pos (by omega), rd107 hi, if_pos (by omega), if_pos (by omega), rd127 hlt]
  by_cases hb : (l[i].f2[j].f3.size : Int) > 500
  ·exact .inl (by rw [if_pos hb])
  ·rw [if_neg hb, wrap_inc (by omega) (by omega), show ((j : Int) + 1) = ((j + 1 : Nat) : Int) by omega]
   rcases g23_l1 l i hi hl hs d k (j + 1) (by omega) (by omega) (by omega) with h | ⟨k', hk', he, hq⟩
   ·exact .inl h
   ·refine .inr ⟨k', by omega, he, fun q h1 h2 => ?_⟩
    rcases Nat.lt_or_ge j q with h3 | h3
    ·exact hq q h1 (by omega)
    ·obtain rfl : j = q := by omega
     omega
theorem g23_l0 (l : List S107) (hl : l.length ≤ 60) : ∀ (d k i : Nat), l.length - i = d → i ≤ l.length → 300 + 60 * d < k → ∃ r, dioramaref23_Great.l0 k l (i : Int) = some r ∧ (r = false → ∀ j (h : j < l.length), i ≤ j → smallO l[j])
 | 0, k + 1, i, hd, hi, hk => by
  refine ⟨false, ?_, fun _ j h1 h2 => by omega⟩
  simp only [dioramaref23_Great.l0]
  rw [if_neg (by omega)]
 | d + 1, k + 1 + 1, i, hd, hi, hk => by
  have hlt : i < l.length := by omega
  have ht : dioramaref23_Great.j1 (k + 1) l (i : Int) true = some true := by rw [dioramaref23_Great.j1, if_pos rfl]
  obtain ⟨r, hr, hh⟩ := g08 (k + 1) (by omega) l[i].f4
  rw [dioramaref23_Great.l0, if_pos (by omega), if_pos (by omega), rd107 hlt, hr, Option.bind_some]
  cases r with
  | true => exact ⟨true, by rw [if_pos rfl]; exact ht, fun h => by cases h⟩
  | false =>
   rw [if_neg Bool.false_ne_true]
   by_cases h2 : (l[i].f2.length : Int) > 50
   ·exact ⟨true, by rw [if_pos h2]; exact ht, fun h => by cases h⟩
   rw [if_neg h2]
   by_cases h3 : (l[i].f3.length : Int) > 100
   ·exact ⟨true, by rw [decide_eq_true h3]; exact ht, fun h => by cases h⟩
   rw [decide_eq_false h3, dioramaref23_Great.j1, if_neg Bool.false_ne_true]
   rcases g23_l1 l i hlt hl (by omega) l[i].f2.length k 0 (by omega) (by omega) (by omega) with h | ⟨k', hk', he, hq⟩
   ·exact ⟨true, h, fun h => by cases h⟩
   ·obtain ⟨r, hr2, hh2⟩ := g23_l0 l hl d k' (i + 1) (by omega) (by omega) (by omega)
    refine ⟨r, by rw [show ((0 : Nat) : Int) = 0 from rfl] at he; rw [he]; exact hr2, fun h j h1 h4 => ?_⟩
    rcases Nat.lt_or_ge i j with h5 | h5
    ·exact hh2 h j h1 (by omega)
    ·obtain rfl : i = j := by omega
     refine ⟨hh rfl, by omega, by omega, fun s hs => ?_⟩
     obtain ⟨q, hq1, rfl⟩ := List.mem_iff_getElem.1 hs
     exact hq q hq1 (by omega)
theorem great24 (k : Nat) (hk : 5000 < k) (sum len way : Int) (l : List S107) (file : ByteArray) : ∃ r, dioramalaw24_great.f k sum len way l file = some r ∧ (r = false → l.length ≤ 60 ∧ (∀ o ∈ l, smallO o) ∧ file.size ≤ 1000) := by
 unfold dioramalaw24_great.f dioramaref23_Great.f
 by_cases h1 : (l.length : Int) > 60
 ·exact ⟨true, by rw [if_pos h1]; rfl, fun h => by cases h⟩
 obtain ⟨r, hr, hh⟩ := g23_l0 l (by omega) l.length k 0 (by omega) (by omega) (by omega)
 rw [if_neg h1, show (0 : Int) = ((0 : Nat) : Int) from rfl, hr, Option.bind_some]
 cases r with
 | true => exact ⟨true, by rw [if_pos rfl], fun h => by cases h⟩
 | false =>
  refine ⟨_, by rw [if_neg Bool.false_ne_true], fun h => ⟨by omega, fun o ho => ?_, by have := of_decide_eq_false h; omega⟩⟩
  obtain ⟨j, hj, rfl⟩ := List.mem_iff_getElem.1 ho
  exact hh rfl j hj (by omega)
end Go.Proofs.Ytdjpelcdijpihaa.Pure
