/- A part of the proof of the claim: what it uses of the text RefOps. -/
import Derived.Test.YtdjpelcdijpihaaVRefCur
import Derived.Test.YtdjpelcdijpihaaVHandPut
namespace Go.Proofs.Ytdjpelcdijpihaa.PrintF
open Go.RowKit Go.Proofs.Ytdjpelcdijpihaa.Print Go.Proofs.YtdjpelcdijpihaaW.PrintWords Go.Proofs.YtdjpelcdijpihaaW.PrintLast
set_option linter.unusedVariables false
def mOf (s : PS) : Nat := match s.2 with
 | some _ => 0
 | none => s.1.length + 1
theorem mOf_some {s : PS} {e : Int} (h : s.2 = some e) : mOf s = 0 := by unfold mOf; rw [h]
theorem mOf_none {s : PS} (h : s.2 = none) : mOf s = s.1.length + 1 := by unfold mOf; rw [h]
theorem loop_to {α R : Type} {cb : ByteArray} {step : PS → α × PS} {n K c : Nat} (hc : 0 < c) {l : Nat → List α → Nat → PS → Option R} {F : List α → PS → Option R}
  (hless : ∀ s, Good cb s → s.2 = none → mOf (step s).2 < mOf s) (hgood : ∀ s, Good cb s → Good cb (step s).2)
  (hstop : ∀ k xs i s, K ≤ k → Good cb s → (¬ i < n ∨ s.2 ≠ none) → l (k + c) xs i s = F xs s)
  (hgo : ∀ k xs i s, K ≤ k → Good cb s → i < n → s.2 = none → xs.length ≤ cb.size + 2 → l (k + c) xs i s = l k (xs ++ [(step s).1]) (i + 1) (step s).2) :
  ∀ (m k : Nat) (xs : List α) (i : Nat) (s : PS), mOf s ≤ m → Good cb s → i ≤ n → xs.length + mOf s ≤ cb.size + 2 → K + c * (m + 1) ≤ k → l k xs i s = F (xs ++ (iterP step (n - i) s).1) (iterP step (n - i) s).2 := by
 intro m
 induction m with
 | zero =>
  intro k xs i s hm hg hi hx hk
  obtain ⟨k, rfl⟩ : ∃ q, k = q + c := ⟨k - c, by omega⟩
  have hs : s.2 ≠ none := fun h => by rw [mOf_none h] at hm; omega
  rw [hstop k xs i s (by omega) hg (.inr hs)]
  cases he : s.2 with
  | none => exact absurd he hs
  | some e => rw [iterP_some step _ s e he, List.append_nil]
 | succ m ih =>
  intro k xs i s hm hg hi hx hk
  have hmul : c * (m + 1 + 1) = c * (m + 1) + c := Nat.mul_succ _ _
  obtain ⟨k, rfl⟩ : ∃ q, k = q + c := ⟨k - c, by omega⟩
  by_cases hn : i < n
  ·cases he : s.2 with
   | some e =>
    rw [hstop k xs i s (by omega) hg (.inr (by rw [he]; simp)), iterP_some step _ s e he, List.append_nil]
   | none =>
    have hl := hless s hg he
    rw [hgo k xs i s (by omega) hg hn he (by omega), ih k _ (i + 1) _ (by omega) (hgood s hg) hn (by rw [List.length_append, List.length_singleton]; omega) (by omega)]
    obtain ⟨d, hd⟩ : ∃ d, n - i = d + 1 := ⟨n - i - 1, by omega⟩
    rw [hd, show n - (i + 1) = d by omega]
    simp only [iterP, he]
    rw [List.append_assoc]
    rfl
  ·rw [hstop k xs i s (by omega) hg (.inl hn), show n - i = 0 by omega]
   simp [iterP]
theorem good_lt {cb : ByteArray} {s : PS} (h : Good cb s) : ∀ c ∈ s.1, c < 256 := fun c hc => bs_lt cb c (h.1.subset hc)
theorem less_of {α : Type} {cb : ByteArray} {step : PS → α × PS} {B : α → List UInt8} {ok : α → Prop} (hg : Gets step B ok) (hB : ∀ x, 0 < (B x).length) (s : PS) (h : Good cb s) (he : s.2 = none) : mOf (step s).2 < mOf s := by
 rw [mOf_none he]
 cases hn : (step s).2.2 with
 | some e => rw [mOf_some hn]; omega
 | none =>
  obtain ⟨_, h2, _⟩ := gets1 hg s (good_lt h) hn
  rw [mOf_none hn]
  have := congrArg List.length h2
  rw [List.length_append] at this
  have hz : (toN (B (step s).1)).length = (B (step s).1).length := by simp [toN]
  have := hB (step s).1
  omega
theorem numB_p (n : Int) : 0 < (numB n).length := numB_pos n
theorem setB_p (s : S127) : 0 < (setB s).length := by
 unfold setB
 split
 ·rw [List.length_append]; have := numB_p 1; omega
 ·rw [List.length_append]; have := numB_p 0; omega
theorem editB_p (s : S138) : 0 < (editB s).length := by unfold editB; rw [List.length_append]; have := numB_p s.f0; omega
theorem sgnB_p (n : Int) : 0 < (sgnB n).length := numB_p _
theorem txtB_p (s : ByteArray) : 0 < (txtB s).length := by unfold txtB; rw [List.length_append]; have := numB_p s.size; omega
def roundsOf (cb : ByteArray) : Nat := 8 * cb.size + 100
theorem m_le {cb : ByteArray} {s : PS} (h : Good cb s) : mOf s ≤ cb.size + 1 := by
 have := (suf_drop h.1).1
 unfold mOf
 split <;> omega
section
variable {cb : ByteArray} (hb : cb.size ≤ 1099511627776)
include hb
omit hb in
theorem er_none {s : PS} (h : s.2 = none) : erOf s = 0 := by unfold erOf; rw [h]; rfl
omit hb in
theorem er_ne {s : PS} (hg : Good cb s) (h : s.2 ≠ none) : erOf s ≠ 0 := by
 unfold erOf
 cases he : s.2 with
 | none => exact absurd he h
 | some e => exact hg.2 e he
theorem rsets_l (n : Nat) (hn : n ≤ 16777216) (k : Nat) (s : PS) (hs : Good cb s) (hk : roundsOf cb ≤ k) :
  dioramaref24_getSets.l0 k [] (n : Int) 0 cb (atOf cb s) (erOf s) = some ((iterP setP n s).1, cb, atOf cb (iterP setP n s).2, erOf (iterP setP n s).2) := by
 have := loop_to (cb := cb) (step := setP) (n := n) (K := 4 * cb.size + 30) (c := 3) (by decide) (l := fun k xs i s => dioramaref24_getSets.l0 k xs (n : Int) (i : Int) cb (atOf cb s) (erOf s)) (F := fun xs s => some (xs, cb, atOf cb s, erOf s))
  (less_of setP_got setB_p) (fun s h => h.set)
  (by
   intro k xs i s hk hg h
   simp only [dioramaref24_getSets.l0]
   by_cases hi : i < n
   ·have he := er_ne hg (h.resolve_left (fun h => h hi))
    rw [if_pos (by omega), beq_eq_false_iff_ne.mpr he]
    simp only [dioramaref24_getSets.j1]
    rw [if_neg Bool.false_ne_true]
   ·rw [if_neg (by omega)]
    simp only [dioramaref24_getSets.j1]
    rw [if_neg Bool.false_ne_true])
  (by
   intro k xs i s hk hg hi he hx
   have hj2 : ∀ (t : PS) (x : Int), Good cb t → dioramaref24_getSets.j2 (k + 1) xs (n : Int) (i : Int) x cb (atOf cb t) (erOf t) =
     dioramaref24_getSets.l0 k (xs ++ [(if x = 1 then (⟨true, (uintP t).1, 0, (textP (uintP t).2).1⟩ : S127) else ⟨false, (uintP t).1, (intP (uintP t).2).1, ⟨#[]⟩⟩)]) (n : Int) ((i + 1 : Nat) : Int) cb
      (atOf cb (if x = 1 then (textP (uintP t).2).2 else (intP (uintP t).2).2)) (erOf (if x = 1 then (textP (uintP t).2).2 else (intP (uintP t).2).2)) := by
    intro t x ht
    simp only [dioramaref24_getSets.j2]
    rw [ruint_cur hb k (by omega) t ht, Option.bind_some, show wrap64 ((i : Int) + 1) = ((i + 1 : Nat) : Int) by unfold wrap64; omega]
    by_cases h1 : x = 1
    ·simp only [if_pos h1]
     rw [rtext_cur hb k (by omega) _ ht.uint, Option.bind_some, if_pos (by omega), beq_iff_eq.mpr h1]
    ·simp only [if_neg h1]
     rw [rint_cur hb k (by omega) _ ht.uint, Option.bind_some, if_pos (by omega), beq_eq_false_iff_ne.mpr h1]
   simp only [dioramaref24_getSets.l0]
   rw [if_pos (by omega), er_none he, show ((0 : Int) == 0) = true from rfl]
   simp only [dioramaref24_getSets.j1]
   rw [if_pos trivial, show (0 : Int) = erOf s from (er_none he).symm, ruint_cur hb (k + 1) (by omega) s hg, Option.bind_some]
   by_cases hx1 : 1 < (uintP s).1
   ·rw [if_pos hx1, rfail_cur _ hg.uint 21 (by decide), Option.bind_some, hj2 _ _ (hg.uint.fail (by decide))]
    simp only [setP, if_pos hx1]
    split <;> rfl
   ·rw [if_neg hx1, hj2 _ _ hg.uint]
    simp only [setP, if_neg hx1]
    split <;> rfl)
  (mOf s) k [] 0 s (Nat.le_refl _) hs (Nat.zero_le _) (by have := m_le hs; simp; omega) (by have := m_le hs; unfold roundsOf at hk; omega)
 simpa using this
theorem redits_l (n : Nat) (hn : n ≤ 16777216) (k : Nat) (s : PS) (hs : Good cb s) (hk : roundsOf cb ≤ k) :
  dioramaref24_getEdits.l0 k [] (n : Int) 0 cb (atOf cb s) (erOf s) = some ((iterP editP n s).1, cb, atOf cb (iterP editP n s).2, erOf (iterP editP n s).2) := by
 have := loop_to (cb := cb) (step := editP) (n := n) (K := 4 * cb.size + 30) (c := 3) (by decide) (l := fun k xs i s => dioramaref24_getEdits.l0 k xs (n : Int) (i : Int) cb (atOf cb s) (erOf s)) (F := fun xs s => some (xs, cb, atOf cb s, erOf s))
  (less_of editP_got editB_p) (fun s h => h.edit)
  (by
   intro k xs i s hk hg h
   simp only [dioramaref24_getEdits.l0]
   by_cases hi : i < n
   ·have he := er_ne hg (h.resolve_left (fun h => h hi))
    rw [if_pos (by omega), beq_eq_false_iff_ne.mpr he]
    simp only [dioramaref24_getEdits.j1]
    rw [if_neg Bool.false_ne_true]
   ·rw [if_neg (by omega)]
    simp only [dioramaref24_getEdits.j1]
    rw [if_neg Bool.false_ne_true])
  (by
   intro k xs i s hk hg hi he hx
   have hw : wrap64 ((i : Int) + 1) = ((i + 1 : Nat) : Int) := by unfold wrap64; omega
   have hjt : dioramaref24_getEdits.j2 (k + 1) xs (n : Int) (i : Int) (uintP s).1 true cb (atOf cb (uintP s).2) (erOf (uintP s).2) =
     dioramaref24_getEdits.l0 k (xs ++ [(⟨(uintP s).1, (uintP (failP 21 (uintP s).2)).1⟩ : S138)]) (n : Int) ((i + 1 : Nat) : Int) cb (atOf cb (uintP (failP 21 (uintP s).2)).2) (erOf (uintP (failP 21 (uintP s).2)).2) := by
    simp only [dioramaref24_getEdits.j2]
    rw [if_pos trivial, rfail_cur _ hg.uint 21 (by decide), Option.bind_some, ruint_cur hb k (by omega) _ (hg.uint.fail (by decide)), Option.bind_some, if_pos (by omega), hw]
   have hjf : dioramaref24_getEdits.j2 (k + 1) xs (n : Int) (i : Int) (uintP s).1 false cb (atOf cb (uintP s).2) (erOf (uintP s).2) =
     dioramaref24_getEdits.l0 k (xs ++ [(⟨(uintP s).1, (uintP (uintP s).2).1⟩ : S138)]) (n : Int) ((i + 1 : Nat) : Int) cb (atOf cb (uintP (uintP s).2).2) (erOf (uintP (uintP s).2).2) := by
    simp only [dioramaref24_getEdits.j2]
    rw [if_neg Bool.false_ne_true, ruint_cur hb k (by omega) _ hg.uint, Option.bind_some, if_pos (by omega), hw]
   simp only [dioramaref24_getEdits.l0]
   rw [if_pos (by omega), er_none he, show ((0 : Int) == 0) = true from rfl]
   simp only [dioramaref24_getEdits.j1]
   rw [if_pos trivial, show (0 : Int) = erOf s from (er_none he).symm, ruint_cur hb (k + 1) (by omega) s hg, Option.bind_some]
   simp only [editP]
   by_cases h0 : (uintP s).1 < 1
   ·rw [if_pos h0, hjt, if_pos (.inl h0)]
   ·rw [if_neg h0]
    by_cases h3 : 3 < (uintP s).1
    ·rw [show decide ((uintP s).1 > 3) = true from decide_eq_true h3, hjt, if_pos (.inr h3)]
    ·rw [show decide ((uintP s).1 > 3) = false from decide_eq_false h3, hjf, if_neg (by omega)])
  (mOf s) k [] 0 s (Nat.le_refl _) hs (Nat.zero_le _) (by have := m_le hs; simp; omega) (by have := m_le hs; unfold roundsOf at hk; omega)
 simpa using this
theorem rkids_l (a : Int) (b : List Int) (c : List ByteArray) (n : Nat) (hn : n ≤ 16777216) (k : Nat) (s : PS) (hs : Good cb s) (hk : roundsOf cb ≤ k) :
  dioramaref24_getNode.l2 k (n : Int) 0 cb (atOf cb s) (erOf s) a b c [] = some (a, b, c, (iterP uintP n s).1, cb, atOf cb (iterP uintP n s).2, erOf (iterP uintP n s).2) := by
 have := loop_to (cb := cb) (step := uintP) (n := n) (K := 4 * cb.size + 30) (c := 1) (by decide) (l := fun k xs i s => dioramaref24_getNode.l2 k (n : Int) (i : Int) cb (atOf cb s) (erOf s) a b c xs) (F := fun xs s => some (a, b, c, xs, cb, atOf cb s, erOf s))
  (less_of uintP_got numB_p) (fun s h => h.uint)
  (by
   intro k xs i s hk hg h
   simp only [dioramaref24_getNode.l2]
   by_cases hi : i < n
   ·rw [if_pos (by omega), if_neg (er_ne hg (h.resolve_left (fun h => h hi)))]
   ·rw [if_neg (by omega)])
  (by
   intro k xs i s hk hg hi he hx
   simp only [dioramaref24_getNode.l2]
   rw [if_pos (by omega), if_pos (er_none he), ruint_cur hb k (by omega) s hg, Option.bind_some, if_pos (by omega), show wrap64 ((i : Int) + 1) = ((i + 1 : Nat) : Int) by unfold wrap64; omega])
  (mOf s) k [] 0 s (Nat.le_refl _) hs (Nat.zero_le _) (by have := m_le hs; simp; omega) (by have := m_le hs; unfold roundsOf at hk; omega)
 simpa using this
theorem rnode_j3 (a : Int) (b : List Int) (c : List ByteArray) (k : Nat) (s : PS) (hs : Good cb s) (hk : roundsOf cb ≤ k) :
  dioramaref24_getNode.j3 (k + 1) cb (atOf cb s) (erOf s) a b c = some (a, b, c, (countP uintP s).1, cb, atOf cb (countP uintP s).2, erOf (countP uintP s).2) := by
 obtain ⟨n, hn⟩ : ∃ n : Nat, (uintP s).1 = (n : Int) := ⟨(uintP s).1.toNat, by have := uintP_range s; omega⟩
 have hn2 : n ≤ 16777216 := by have := uintP_range s; omega
 simp only [dioramaref24_getNode.j3]
 rw [ruint_cur hb k (by unfold roundsOf at hk; omega) s hs, Option.bind_some, hn]
 dsimp only
 rw [rkids_l hb a b c n hn2 k _ hs.uint hk]
 unfold countP
 rw [hn]
 rfl
theorem rtexts_l (a : Int) (b : List Int) (n : Nat) (hn : n ≤ 16777216) (k : Nat) (s : PS) (hs : Good cb s) (hk : 2 * roundsOf cb ≤ k) :
  dioramaref24_getNode.l1 k (n : Int) 0 cb (atOf cb s) (erOf s) a b [] = some (a, b, (iterP textP n s).1, (countP uintP (iterP textP n s).2).1, cb, atOf cb (countP uintP (iterP textP n s).2).2, erOf (countP uintP (iterP textP n s).2).2) := by
 have := loop_to (cb := cb) (step := textP) (n := n) (K := roundsOf cb + 1) (c := 1) (by decide) (l := fun k xs i s => dioramaref24_getNode.l1 k (n : Int) (i : Int) cb (atOf cb s) (erOf s) a b xs) (F := fun xs s => some (a, b, xs, (countP uintP s).1, cb, atOf cb (countP uintP s).2, erOf (countP uintP s).2))
  (less_of textP_got txtB_p) (fun s h => h.text)
  (by
   intro k xs i s hk hg h
   obtain ⟨k, rfl⟩ : ∃ q, k = q + 1 := ⟨k - 1, by omega⟩
   simp only [dioramaref24_getNode.l1]
   by_cases hi : i < n
   ·rw [if_pos (by omega), if_neg (er_ne hg (h.resolve_left (fun h => h hi))), rnode_j3 hb a b xs k s hg (by omega)]
   ·rw [if_neg (by omega), rnode_j3 hb a b xs k s hg (by omega)])
  (by
   intro k xs i s hk hg hi he hx
   simp only [dioramaref24_getNode.l1]
   rw [if_pos (by omega), if_pos (er_none he), rtext_cur hb k (by unfold roundsOf at hk; omega) s hg, Option.bind_some, if_pos (by omega), show wrap64 ((i : Int) + 1) = ((i + 1 : Nat) : Int) by unfold wrap64; omega])
  (mOf s) k [] 0 s (Nat.le_refl _) hs (Nat.zero_le _) (by have := m_le hs; simp; omega) (by have := m_le hs; unfold roundsOf at hk ⊢; omega)
 simpa using this
theorem rnode_j1 (a : Int) (b : List Int) (k : Nat) (s : PS) (hs : Good cb s) (hk : 2 * roundsOf cb ≤ k) :
  dioramaref24_getNode.j1 (k + 1) cb (atOf cb s) (erOf s) a b = some (a, b, (countP textP s).1, (countP uintP (countP textP s).2).1, cb, atOf cb (countP uintP (countP textP s).2).2, erOf (countP uintP (countP textP s).2).2) := by
 obtain ⟨n, hn⟩ : ∃ n : Nat, (uintP s).1 = (n : Int) := ⟨(uintP s).1.toNat, by have := uintP_range s; omega⟩
 have hn2 : n ≤ 16777216 := by have := uintP_range s; omega
 simp only [dioramaref24_getNode.j1]
 rw [ruint_cur hb k (by unfold roundsOf at hk; omega) s hs, Option.bind_some, hn]
 dsimp only
 rw [rtexts_l hb a b n hn2 k _ hs.uint hk]
 have e : countP textP s = iterP textP n (uintP s).2 := by unfold countP; rw [hn]; rfl
 rw [e]
theorem rints_l (a : Int) (n : Nat) (hn : n ≤ 16777216) (k : Nat) (s : PS) (hs : Good cb s) (hk : 3 * roundsOf cb ≤ k) :
  dioramaref24_getNode.l0 k (n : Int) 0 cb (atOf cb s) (erOf s) a [] = some (a, (iterP intP n s).1, (countP textP (iterP intP n s).2).1, (countP uintP (countP textP (iterP intP n s).2).2).1, cb, atOf cb (countP uintP (countP textP (iterP intP n s).2).2).2, erOf (countP uintP (countP textP (iterP intP n s).2).2).2) := by
 have := loop_to (cb := cb) (step := intP) (n := n) (K := 2 * roundsOf cb + 1) (c := 1) (by decide) (l := fun k xs i s => dioramaref24_getNode.l0 k (n : Int) (i : Int) cb (atOf cb s) (erOf s) a xs) (F := fun xs s => some (a, xs, (countP textP s).1, (countP uintP (countP textP s).2).1, cb, atOf cb (countP uintP (countP textP s).2).2, erOf (countP uintP (countP textP s).2).2))
  (less_of intP_got sgnB_p) (fun s h => h.int)
  (by
   intro k xs i s hk hg h
   obtain ⟨k, rfl⟩ : ∃ q, k = q + 1 := ⟨k - 1, by omega⟩
   simp only [dioramaref24_getNode.l0]
   by_cases hi : i < n
   ·rw [if_pos (by omega), if_neg (er_ne hg (h.resolve_left (fun h => h hi))), rnode_j1 hb a xs k s hg (by omega)]
   ·rw [if_neg (by omega), rnode_j1 hb a xs k s hg (by omega)])
  (by
   intro k xs i s hk hg hi he hx
   simp only [dioramaref24_getNode.l0]
   rw [if_pos (by omega), if_pos (er_none he), rint_cur hb k (by unfold roundsOf at hk; omega) s hg, Option.bind_some, if_pos (by omega), show wrap64 ((i : Int) + 1) = ((i + 1 : Nat) : Int) by unfold wrap64; omega])
  (mOf s) k [] 0 s (Nat.le_refl _) hs (Nat.zero_le _) (by have := m_le hs; simp; omega) (by have := m_le hs; unfold roundsOf at hk ⊢; omega)
 simpa using this
theorem rnode_cur (k : Nat) (s : PS) (hs : Good cb s) (hk : 3 * roundsOf cb ≤ k) :
  dioramaref24_getNode.f k cb (atOf cb s) (erOf s) = some ((nodeP s).1.f0, (nodeP s).1.f1, (nodeP s).1.f2, (nodeP s).1.f3, cb, atOf cb (nodeP s).2, erOf (nodeP s).2) := by
 obtain ⟨n, hn⟩ : ∃ n : Nat, (uintP (uintP s).2).1 = (n : Int) := ⟨(uintP (uintP s).2).1.toNat, by have := uintP_range (uintP s).2; omega⟩
 have hn2 : n ≤ 16777216 := by have := uintP_range (uintP s).2; omega
 unfold dioramaref24_getNode.f
 rw [ruint_cur hb k (by unfold roundsOf at hk; omega) s hs, Option.bind_some, ruint_cur hb k (by unfold roundsOf at hk; omega) _ hs.uint, Option.bind_some, hn]
 dsimp only
 rw [rints_l hb _ n hn2 k _ hs.uint.uint hk]
 have e : countP intP (uintP s).2 = iterP intP n (uintP (uintP s).2).2 := by unfold countP; rw [hn]; rfl
 simp only [nodeP, e]
theorem rsets_cur (k : Nat) (s : PS) (hs : Good cb s) (hk : roundsOf cb ≤ k) : dioramaref24_getSets.f k cb (atOf cb s) (erOf s) = some ((countP setP s).1, cb, atOf cb (countP setP s).2, erOf (countP setP s).2) := by
 obtain ⟨n, hn⟩ : ∃ n : Nat, (uintP s).1 = (n : Int) := ⟨(uintP s).1.toNat, by have := uintP_range s; omega⟩
 have hn2 : n ≤ 16777216 := by have := uintP_range s; omega
 unfold dioramaref24_getSets.f
 rw [ruint_cur hb k (by unfold roundsOf at hk; omega) s hs, Option.bind_some, hn]
 dsimp only
 rw [rsets_l hb n hn2 k _ hs.uint hk]
 unfold countP
 rw [hn]
 rfl
theorem redits_cur (k : Nat) (s : PS) (hs : Good cb s) (hk : roundsOf cb ≤ k) : dioramaref24_getEdits.f k cb (atOf cb s) (erOf s) = some ((countP editP s).1, cb, atOf cb (countP editP s).2, erOf (countP editP s).2) := by
 obtain ⟨n, hn⟩ : ∃ n : Nat, (uintP s).1 = (n : Int) := ⟨(uintP s).1.toNat, by have := uintP_range s; omega⟩
 have hn2 : n ≤ 16777216 := by have := uintP_range s; omega
 unfold dioramaref24_getEdits.f
 rw [ruint_cur hb k (by unfold roundsOf at hk; omega) s hs, Option.bind_some, hn]
 dsimp only
 rw [redits_l hb n hn2 k _ hs.uint hk]
 unfold countP
 rw [hn]
 rfl
theorem rop_cur (k : Nat) (s : PS) (hs : Good cb s) (hk : 3 * roundsOf cb ≤ k) : dioramaref24_getOp.f k cb (atOf cb s) (erOf s) =
  some ((opP s).1.f0, (opP s).1.f1, (opP s).1.f2, (opP s).1.f3, (opP s).1.f4.f0, (opP s).1.f4.f1, (opP s).1.f4.f2, (opP s).1.f4.f3, cb, atOf cb (opP s).2, erOf (opP s).2) := by
 have hk2 : 4 * cb.size + 20 < k := by unfold roundsOf at hk; omega
 unfold dioramaref24_getOp.f
 rw [ruint_cur hb k hk2 s hs, Option.bind_some]
 dsimp only
 simp only [opP]
 by_cases h1 : (uintP s).1 = 1
 ·simp only [if_pos h1]
  rw [ruint_cur hb k hk2 _ hs.uint]
  rfl
 simp only [if_neg h1]
 by_cases h2 : (uintP s).1 = 2
 ·simp only [if_pos h2]
  rw [ruint_cur hb k hk2 _ hs.uint, Option.bind_some]
  dsimp only
  rw [rsets_cur hb k _ hs.uint.uint (by omega), Option.bind_some]
  dsimp only
  rw [redits_cur hb k _ (Good.count (fun _ h => h.set) hs.uint.uint) (by omega)]
  rfl
 simp only [if_neg h2]
 by_cases h3 : (uintP s).1 = 3
 ·simp only [if_pos h3]
  rw [rnode_cur hb k _ hs.uint hk]
  rfl
 simp only [if_neg h3]
 rw [rfail_cur _ hs.uint 21 (by decide)]
 rfl
end
end Go.Proofs.Ytdjpelcdijpihaa.PrintF
