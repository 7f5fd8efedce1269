/- A part of the proof of the claim: what it uses of the text PurePatchOne. -/
import Derived.Test.YtdjpelcdijpihaaZPatchPlain
import Derived.Test.YtdjpelcdijpihaaZPrintF14
import Derived.Test.YtdjpelcdijpihaaZPrintG10
namespace Go.Proofs.Ytdjpelcdijpihaa.Pure
open Go.RowKit Go.Proofs.Ytdjpelcdijpihaa.Print Go.Proofs.Ytdjpelcdijpihaa.PrintF Go.Proofs.YtdjpelcdijpihaaW.PrintWords Go.Proofs.YtdjpelcdijpihaaW.PrintLast
theorem secsE_error : ∀ (m : Nat) (acc : List S52) (r : List Nat) (e : Int), secsE m acc r = .error e → e ≠ 0
 | 0, acc, r, e, h => by simp only [secsE] at h; cases h
 | m + 1, acc, r, e, h => by
  simp only [secsE] at h
  split at h
  ·cases h
  ·rename_i hne
   split at h
   ·cases h; decide
   ·split at h
    ·rename_i e' he
     cases h
     exact secE_error _ _ he hne
    ·exact secsE_error m _ _ _ h
theorem getM_error {m b : ByteArray} {e : Int} (h : getM m b = .error e) : e ≠ 0 := by
 unfold getM at h
 split at h
 ·cases hr : (bs b).drop 4 with
  | nil => rw [hr] at h; cases h; decide
  | cons c r =>
   rw [hr] at h
   simp only [getE] at h
   split at h
   ·cases h; decide
   ·split at h
    ·rename_i e' hs
     cases h
     exact secsE_error _ _ _ _ hs
    ·cases h
 ·cases h; decide
theorem getM_ok {m b : ByteArray} {v : Nat} {l : List S52} (h : getM m b = .ok (v, l)) : m.size = 4 ∧ (∀ s ∈ l, goodS s) ∧ bs b = bs m ++ v :: allB l := by
 unfold getM at h
 split at h
 ·rename_i hm
  cases hr : (bs b).drop 4 with
  | nil => rw [hr] at h; cases h
  | cons c r =>
   have hlt : ∀ x ∈ c :: r, x < 256 := by rw [← hr]; exact drop_lt (bs_lt b) 4
   rw [hr] at h
   simp only [getE] at h
   split at h
   ·cases h
   ·rename_i hc
    split at h
    ·cases h
    ·rename_i l' hs
     cases h
     obtain ⟨l2, hl2, hg, hrr⟩ := secsE_got _ _ _ _ (Nat.le_refl _) (fun x hx => hlt x (by simp [hx])) hs
     simp only [List.nil_append] at hl2
     subst hl2
     refine ⟨hm.1, hg, ?_⟩
     have ht : (bs b).take 4 = bs m := by
      have := List.prefix_iff_eq_take.1 hm.2
      rw [bs_length, hm.1] at this
      exact this.symm
     rw [← List.take_append_drop 4 (bs b), ht, hr, hrr]
 ·cases h
def Fits (way : Int) (ops : List S107) (file p : ByteArray) : Prop := way = 0 ∧ ops = [] ∧ file = ⟨#[]⟩ ∧ p = ⟨#[]⟩ ∨ way = 2 ∧ ops = [] ∧ p = file ∧ p.size ≤ 16777216 ∨
  way = 1 ∧ file = ⟨#[]⟩ ∧ p = ⟨(opsB ops).toArray⟩ ∧ opsNo ops = false ∧ (∀ o ∈ ops, okNums o) ∧ (opsB ops).length ≤ 16777216
theorem put_fits {sum len way : Int} {ops : List S107} {file p : ByteArray} (hl : 0 ≤ len ∧ len ≤ 4294967295) (h : Fits way ops file p) : patch_Put.f sum len way ops file = some (fileP sum len way p, 0) := by
 have hz : (⟨(opsB ops).toArray⟩ : ByteArray).size = (opsB ops).length := by simp [ByteArray.size]
 have he : (⟨#[]⟩ : ByteArray).toList.isEmpty = true := by rw [ByteArray.toList_eq]; rfl
 unfold patch_Put.f
 rcases h with ⟨rfl, rfl, rfl, rfl⟩ | ⟨rfl, rfl, rfl, hz2⟩ | ⟨rfl, rfl, rfl, hno, hok, hz2⟩
 ·rw [if_neg (by omega), if_neg (by simp), if_neg (by rw [he]; simp), if_neg (by decide), tail_file _ _ _ (by decide)]
 ·rw [if_neg (by omega), if_neg (by simp), if_neg (by simp), if_neg (by decide), tail_file _ _ _ hz2]
 ·rw [if_neg (by omega), if_neg (by simp), if_neg (by rw [he]; simp), if_pos rfl, if_neg (by omega), if_neg (by rw [hno]; exact Bool.false_ne_true), tail_file _ _ _ (by rw [hz]; exact hz2)]
theorem body_got {sum len way : Int} {p : ByteArray} (hp : p.size ≤ 16777216) : (∃ e, e ≠ 0 ∧ patch_Get.body sum len way p = some (0, 0, 0, [], ⟨#[]⟩, e)) ∨ ∃ ops file, patch_Get.body sum len way p = some (sum, len, way, ops, file, 0) ∧ Fits way ops file p := by
 unfold patch_Get.body
 by_cases h1 : way = 1
 ·rw [if_pos h1, if_pos (by omega)]
  obtain ⟨ops, ⟨L, er⟩, hc⟩ : ∃ ops st, countP opP (bs p, none) = (ops, st) := ⟨_, _, rfl⟩
  have hg : PrintF.Good p (L, er) := by
   have := Good.count (fun _ h => h.op) (show PrintF.Good p (bs p, none) from ⟨List.suffix_refl _, fun _ h => by cases h⟩)
   rw [hc] at this
   exact this
  rw [hc]
  unfold w1Res
  simp only
  by_cases hL : 0 < L.length
  ·rw [if_pos hL]
   cases er with
   | none => exact .inl ⟨8, by decide, rfl⟩
   | some e => exact .inl ⟨e, hg.2 e rfl, rfl⟩
  ·rw [if_neg hL]
   cases er with
   | some e => exact .inl ⟨e, hg.2 e rfl, rfl⟩
   | none =>
    obtain rfl : L = [] := List.eq_nil_of_length_eq_zero (by omega)
    obtain ⟨_, h2, h3, h4⟩ := countP_got opP_got (bs p, none) ops [] (bs_lt p) hc
    have hb : bs p = toN (opsB ops) := by
     simp only at h2
     rw [h2, List.append_nil, ← toN_append]
     rfl
    have hpe : p = ⟨(opsB ops).toArray⟩ := by
     rw [← mkB_bs p, hb]
     unfold mkB
     rw [u8s_toN]
    have hz : p.size = (opsB ops).length := by rw [hpe]; simp [ByteArray.size]
    refine .inr ⟨ops, ⟨#[]⟩, rfl, .inr (.inr ⟨h1, rfl, hpe, ?_, fun o ho => (h4 o ho).2, by omega⟩)⟩
    unfold opsNo
    rw [h3, all_no (fun o ho => (h4 o ho).1)]
    rfl
 rw [if_neg h1]
 by_cases h0 : way = 0
 ·rw [if_pos h0]
  by_cases hz : 0 < wrap64 ((p.size : Int) - 0)
  ·rw [if_pos hz]; exact .inl ⟨8, by decide, rfl⟩
  ·rw [if_neg hz]
   have hp0 : p.size = 0 := by unfold wrap64 at hz; omega
   have hpe : p = ⟨#[]⟩ := by
    rw [← mkB_bs p, List.eq_nil_of_length_eq_zero (l := bs p) (by rw [bs_length, hp0])]
    rfl
   exact .inr ⟨[], ⟨#[]⟩, rfl, .inl ⟨h0, rfl, rfl, hpe⟩⟩
 rw [if_neg h0]
 by_cases h2 : way = 2
 ·have hb := bytes_ok p (by omega) 0 (by omega) p.size (by omega)
  rw [if_pos h2, show wrap64 ((p.size : Int) - 0) = ((p.size : Nat) : Int) by unfold wrap64; omega, show (0 : Int) = ((0 : Nat) : Int) from rfl, hb]
  simp only
  rw [if_neg (by unfold wrap64; omega), List.drop_zero, ← bs_length p, List.take_length, mkB_bs]
  exact .inr ⟨[], p, rfl, .inr (.inl ⟨h2, rfl, rfl, hp⟩)⟩
 ·rw [if_neg h2]; exact .inl ⟨1, by decide, rfl⟩
theorem get_cases (k : Nat) (b : ByteArray) (hb : b.size ≤ 16777216) (hk : 4 * b.size + 300 < k) : (∃ e, e ≠ 0 ∧ patch_Get.f k b = some (0, 0, 0, [], ⟨#[]⟩, e)) ∨
  ∃ sum len way ops file p, patch_Get.f k b = some (sum, len, way, ops, file, 0) ∧ b = fileP sum len way p ∧ (0 ≤ len ∧ len ≤ 4294967295) ∧ Fits way ops file p := by
 unfold patch_Get.f
 obtain ⟨v', l, e', ht⟩ : ∃ v l e, tellG (getM diop b) = (v, l, e) := ⟨_, _, _, rfl⟩
 rw [show (⟨#[68, 73, 79, 80]⟩ : ByteArray) = diop from rfl, frameGet_eq k diop _ (by omega) (by omega), Option.bind_some, ht]
 dsimp only
 by_cases he : e' = 0
 ·rw [if_neg (fun h => h he)]
  cases h : getM diop b with
  | error e =>
   rw [h] at ht
   simp only [tellG, Prod.mk.injEq] at ht
   exact absurd (ht.2.2.trans he) (getM_error h)
  | ok x =>
   obtain ⟨v, l2⟩ := x
   rw [h] at ht
   simp only [tellG, Prod.mk.injEq] at ht
   obtain ⟨rfl, rfl, _⟩ := ht
   obtain ⟨_, hg, hbs⟩ := getM_ok h
   by_cases hv : ((v : Nat) : Int) = 2
   ·rw [if_neg (fun h => h hv)]
    match l2, hg, hbs with
    | [s0, s1], hg, hbs =>
     dsimp only
     by_cases hc : s0.f0 ≠ 1 ∨ s1.f0 ≠ 2 ∨ s0.f1.size ≠ 9
     ·rw [if_pos hc]; exact .inl ⟨4, by decide, rfl⟩
     ·rw [if_neg hc]
      obtain ⟨sum, len, c1, c2, r1, r2, hf⟩ := first_of s0.f1 (by omega)
      rw [c1, Option.bind_some, c2, Option.bind_some]
      dsimp only
      rw [if_pos r2]
      have e0 : s0 = ⟨1, firstP sum len (bt s0.f1 8)⟩ := by
       obtain ⟨a, f⟩ := s0
       simp only at hc hf ⊢
       rw [← hf]
       congr
       omega
      have e1 : s1 = ⟨2, s1.f1⟩ := by
       obtain ⟨a, f⟩ := s1
       simp only at hc ⊢
       congr
       omega
      have hz : s1.f1.size ≤ 16777216 := (hg s1 (by simp)).2.2
      have hv2 : v = 2 := by omega
      have hfile : b = fileP sum len (bt s0.f1 8) s1.f1 := by
       rw [← mkB_bs b, hbs, hv2]
       unfold fileP secs
       rw [← e0, ← e1]
      rcases body_got (sum := sum) (len := len) (way := bt s0.f1 8) hz with ⟨e, he, hr⟩ | ⟨ops, file, hr, hfit⟩
      ·exact .inl ⟨e, he, hr⟩
      ·exact .inr ⟨sum, len, _, ops, file, s1.f1, hr, hfile, r2, hfit⟩
    | [], hg, hbs => exact .inl ⟨4, by decide, rfl⟩
    | [_], hg, hbs => exact .inl ⟨4, by decide, rfl⟩
    | _ :: _ :: _ :: _, hg, hbs => exact .inl ⟨4, by decide, rfl⟩
   ·rw [if_pos hv]; exact .inl ⟨7, by decide, rfl⟩
 ·rw [if_pos he]; exact .inl ⟨e', he, rfl⟩
theorem PatchOne : dioramalaw24_PatchOne.Pure := by
 intro b hb
 refine ⟨100000 + 1, ?_⟩
 obtain ⟨K, hK⟩ : ∃ K, K = 100000 := ⟨_, rfl⟩
 rw [← hK]
 have ht : dioramalaw24_PatchOne.j0 (K + 1) b true = some true := by
  simp only [dioramalaw24_PatchOne.j0]
  rw [if_pos trivial, patch_awake _ (by omega)]
  rfl
 unfold dioramalaw24_PatchOne.f
 rw [patch_awake _ (by omega), Option.bind_some, if_pos rfl]
 by_cases hz : (b.size : Int) > 2000
 ·rw [decide_eq_true hz]; exact ht
 rw [decide_eq_false hz]
 simp only [dioramalaw24_PatchOne.j0]
 rw [if_neg Bool.false_ne_true]
 rcases get_cases K b (by omega) (by omega) with ⟨e, he, hr⟩ | ⟨sum, len, way, ops, file, p, hr, hfile, hl, hfit⟩
 ·rw [hr, Option.bind_some]
  simp only
  rw [if_neg he]
  unfold dioramaref24_Same.f
  rw [if_pos ⟨rfl, rfl, rfl, rfl, rfl⟩]
  rfl
 ·rw [hr, Option.bind_some]
  simp only
  rw [if_pos trivial, put_fits hl hfit, Option.bind_some]
  simp only
  rw [if_pos trivial, ← hfile]
  simp
end Go.Proofs.Ytdjpelcdijpihaa.Pure
