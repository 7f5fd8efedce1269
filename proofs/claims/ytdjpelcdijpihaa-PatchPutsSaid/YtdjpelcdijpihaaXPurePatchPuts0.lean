/- A part of the proof of the claim: what it uses of the text PurePatchPuts0. -/
import Derived.Test.YtdjpelcdijpihaaXHandPut
import Derived.Test.YtdjpelcdijpihaaXHandRefE
namespace Go.Proofs.Ytdjpelcdijpihaa.Pure
open Go.RowKit Go.Proofs.Ytdjpelcdijpihaa.Print Go.Proofs.Ytdjpelcdijpihaa.PrintF Go.Proofs.YtdjpelcdijpihaaW.PrintWords Go.Proofs.YtdjpelcdijpihaaW.PrintLast
def smallN (x : S105) : Prop := x.f1.length ≤ 100 ∧ x.f2.length ≤ 100 ∧ x.f3.length ≤ 300 ∧ ∀ s ∈ x.f2, s.size ≤ 500
def smallO (o : S107) : Prop := smallN o.f4 ∧ o.f2.length ≤ 50 ∧ o.f3.length ≤ 100 ∧ ∀ s ∈ o.f2, s.f3.size ≤ 500
theorem noB_small {n : Nat} (h : n ≤ 16777216) : noB (n : Int) = false := by
 unfold noB
 exact decide_eq_false (by omega)
theorem any_false {α : Type} {l : List α} {f : α → Bool} (h : ∀ s ∈ l, f s = false) : l.any f = false := by
 rw [List.any_eq_false]
 intro s hs
 rw [h s hs]
 exact Bool.false_ne_true
theorem nodeNo_eq {x : S105} (h : smallN x) : nodeNo x = (noB x.f0 || x.f3.any noB) := by
 unfold nodeNo
 rw [noB_small (by have := h.1; omega), noB_small (by have := h.2.1; omega), noB_small (by have := h.2.2.1; omega), any_false (fun s hs => noB_small (by have := h.2.2.2 s hs; omega))]
 simp
theorem refNode_snd (x : S105) : (refNode x).2 = !(noB x.f0 || x.f3.any noB) := by
 unfold refNode
 cases h : (noB x.f0 || x.f3.any noB)
 ·rfl
 ·rfl
theorem refSets_snd (l : List S127) : (refSets l).2 = !(l.any setNo) := by
 unfold refSets
 cases h : l.any setNo
 ·rfl
 ·rfl
theorem refEdits_snd (l : List S138) : (refEdits l).2 = !(l.any editNoR) := by
 unfold refEdits
 cases h : l.any editNoR
 ·rfl
 ·rfl
theorem editNo_eq (e : S138) : editNo e = editNoR e := by
 unfold editNo editNoR noB
 by_cases h1 : e.f0 < 1
 ·rw [decide_eq_true h1]; rfl
 ·by_cases h3 : 3 < e.f0
  ·rw [decide_eq_true h3]; simp
  ·rw [decide_eq_false (show ¬ (e.f0 < 0 ∨ 16777216 < e.f0) by omega)]; simp
theorem editsNo_eq {o : S107} (h : smallO o) : editsNo o.f2 o.f3 = (o.f2.any setNo || o.f3.any editNoR) := by
 unfold editsNo
 rw [noB_small (by have := h.2.1; omega), noB_small (by have := h.2.2.1; omega), show editNo = editNoR from funext editNo_eq]
 simp
theorem empty_eq (x : S105) : patch_empty.f x.f0 x.f1 x.f2 x.f3 = some (zeroN x) := by
 unfold patch_empty.f zeroN
 by_cases h0 : x.f0 = 0
 ·by_cases h1 : x.f1.length = 0
  ·by_cases h2 : x.f2.length = 0
   ·rw [if_pos h0, if_pos (by omega), if_pos (by omega), decide_eq_true ⟨h0, h1, h2⟩]
    congr 1
    by_cases h3 : x.f3.length = 0 <;> simp [h3]
   ·rw [if_pos h0, if_pos (by omega), if_neg (by omega), decide_eq_false (fun h => h2 h.2.2)]; rfl
  ·rw [if_pos h0, if_neg (by omega), decide_eq_false (fun h => h1 h.2.1)]; rfl
 ·rw [if_neg h0, decide_eq_false (fun h => h0 h.1)]; rfl
theorem d0 (n : Nat) : ((n : Int) == 0) = decide (n = 0) := by by_cases h : n = 0 <;> simp [h]
theorem bel_is (o : S107) : bel o = if o.f0 = 1 then decide (o.f2.length = 0) && (decide (o.f3.length = 0) && zeroN o.f4) else if o.f0 = 2 then zeroN o.f4 else if o.f0 = 3 then decide (o.f1 = 0) && (decide (o.f2.length = 0) && decide (o.f3.length = 0)) else false := by
 have h := bel_eq o
 unfold patch_belongs.f at h
 rw [empty_eq] at h
 by_cases h1 : o.f0 = 1
 ·rw [if_pos h1] at h ⊢
  by_cases h2 : o.f2.length = 0
  ·by_cases h3 : o.f3.length = 0
   ·rw [if_pos (by omega), if_pos (by omega)] at h
    rw [decide_eq_true h2, decide_eq_true h3]
    exact (Option.some.inj h).symm
   ·rw [if_pos (by omega), if_neg (by omega)] at h
    rw [decide_eq_true h2, decide_eq_false h3]
    exact (Option.some.inj h).symm
  ·rw [if_neg (by omega)] at h
   rw [decide_eq_false h2]
   exact (Option.some.inj h).symm
 ·rw [if_neg h1] at h ⊢
  by_cases h2 : o.f0 = 2
  ·rw [if_pos h2] at h ⊢
   exact (Option.some.inj h).symm
  ·rw [if_neg h2] at h ⊢
   by_cases h3 : o.f0 = 3
   ·rw [if_pos h3] at h ⊢
    by_cases h4 : o.f1 = 0
    ·by_cases h5 : o.f2.length = 0
     ·rw [if_pos h4, if_pos (by omega)] at h
      rw [decide_eq_true h4, decide_eq_true h5]
      have h6 := (Option.some.inj h).symm
      rw [d0] at h6
      exact h6
     ·rw [if_pos h4, if_neg (by omega)] at h
      rw [decide_eq_true h4, decide_eq_false h5]
      exact (Option.some.inj h).symm
    ·rw [if_neg h4] at h
     rw [decide_eq_false h4]
     exact (Option.some.inj h).symm
   ·rw [if_neg h3] at h ⊢
    exact (Option.some.inj h).symm
theorem noB_k {n : Int} (h : 0 ≤ n ∧ n ≤ 16777216) : noB n = false := by
 unfold noB
 exact decide_eq_false (by omega)
theorem opNo_eq {o : S107} (h : smallO o) : opNo o = !refOk o := by
 unfold opNo refOk
 rw [bel_is, editsNo_eq h, nodeNo_eq h.1, refNode_snd, refSets_snd, refEdits_snd]
 by_cases h1 : o.f0 = 1
 ·rw [if_pos h1, if_pos h1, if_neg (by omega), if_neg (by omega), h1, noB_k (by omega)]
  generalize noB o.f1 = a
  generalize zeroN o.f4 = b
  generalize decide (o.f2.length = 0) = c
  generalize decide (o.f3.length = 0) = d
  cases a <;> cases b <;> cases c <;> cases d <;> rfl
 ·rw [if_neg h1, if_neg h1]
  by_cases h2 : o.f0 = 2
  ·rw [if_pos h2, if_pos h2, if_neg (by omega), if_pos h2, h2, noB_k (by omega)]
   generalize noB o.f1 = a
   generalize zeroN o.f4 = b
   generalize o.f2.any setNo = c
   generalize o.f3.any editNoR = d
   cases a <;> cases b <;> cases c <;> cases d <;> rfl
  ·rw [if_neg h2, if_neg h2]
   by_cases h3 : o.f0 = 3
   ·rw [if_pos h3, if_pos h3, if_pos h3, h3, noB_k (by omega)]
    generalize (noB o.f4.f0 || o.f4.f3.any noB) = a
    generalize decide (o.f1 = 0) = b
    generalize decide (o.f2.length = 0) = c
    generalize decide (o.f3.length = 0) = d
    cases a <;> cases b <;> cases c <;> cases d <;> rfl
   ·simp only [if_neg h2, if_neg h3]
    rfl
theorem opsNo_eq {l : List S107} (hl : l.length ≤ 60) (h : ∀ o ∈ l, smallO o) : opsNo l = !(l.all refOk) := by
 unfold opsNo
 rw [noB_small (by omega), Bool.false_or]
 clear hl
 induction l with
 | nil => rfl
 | cons o l ih =>
  rw [List.any_cons, List.all_cons, opNo_eq (h o (by simp)), ih (fun x hx => h x (by simp [hx])), Bool.not_and]
end Go.Proofs.Ytdjpelcdijpihaa.Pure
