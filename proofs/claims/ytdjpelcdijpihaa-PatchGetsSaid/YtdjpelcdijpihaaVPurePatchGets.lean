/- A part of the proof of the claim: what it uses of the text PurePatchGets. -/
import Derived.Test.YtdjpelcdijpihaaVPrintF14
import Derived.Test.YtdjpelcdijpihaaVPrintG9
import Derived.Test.YtdjpelcdijpihaaVFrameRefG
namespace Go.Proofs.Ytdjpelcdijpihaa.Pure
open Go.RowKit Go.Proofs.Ytdjpelcdijpihaa.Print Go.Proofs.Ytdjpelcdijpihaa.PrintF Go.Proofs.YtdjpelcdijpihaaW.PrintWords Go.Proofs.YtdjpelcdijpihaaW.PrintLast
theorem num_eq (f : ByteArray) (h : f.size = 4) : ∃ n, crc_Get.f f = some (n, true) ∧ dioramaref24_number.f f = some n ∧ 0 ≤ n ∧ n ≤ 4294967295 := by
 have r0 := bt_range f 0
 have r1 := bt_range f 1
 have r2 := bt_range f 2
 have r3 := bt_range f 3
 refine ⟨_, get_eq f h, ?_, by omega, by omega⟩
 unfold dioramaref24_number.f
 rw [if_pos (by omega), if_pos (by omega), if_pos (by omega), if_pos (by omega)]
 generalize bt f 0 = x0 at *
 generalize bt f 1 = x1 at *
 generalize bt f 2 = x2 at *
 generalize bt f 3 = x3 at *
 rw [wrap_id (x := x0) (by omega) (by omega), wrap_id (x := x1) (by omega) (by omega), wrap_id (x := x2) (by omega) (by omega), wrap_id (x := x3) (by omega) (by omega),
  wrap_id (x := 256 * x1) (by omega) (by omega), wrap_id (x := 65536 * x2) (by omega) (by omega), wrap_id (x := 16777216 * x3) (by omega) (by omega),
  wrap_id (x := x0 + 256 * x1) (by omega) (by omega), wrap_id (x := x0 + 256 * x1 + 65536 * x2) (by omega) (by omega), wrap_id (x := x0 + 256 * x1 + 65536 * x2 + 16777216 * x3) (by omega) (by omega)]
theorem body_same (sum len way : Int) (hw : 0 ≤ way) (p : ByteArray) (hp : p.size ≤ 16777216) : patch_Get.body sum len way p = some (rBody sum len way p) := by
 unfold patch_Get.body rBody
 by_cases h1 : way = 1
 ·rw [if_pos h1, if_pos (by omega), if_neg (by omega), if_neg (by omega), rList, if_pos h1]
  obtain ⟨ops, ⟨L, er⟩, hc⟩ : ∃ ops st, countP opP (bs p, none) = (ops, st) := ⟨_, _, rfl⟩
  rw [hc]
  unfold w1Res rTell
  simp only
  by_cases hL : 0 < L.length
  ·rw [if_pos hL, if_pos hL]
   cases er <;> rfl
  ·rw [if_neg hL, if_neg hL]
   cases er <;> rfl
 rw [if_neg h1]
 by_cases h0 : way = 0
 ·rw [if_pos h0, if_neg (show ¬ 2 < way by omega), if_neg (show ¬ way = 2 by omega), rList, if_neg h1]
  unfold rTell
  simp only [bs_length]
  by_cases hz : 0 < p.size
  ·rw [if_pos (show 0 < wrap64 ((p.size : Int) - 0) by unfold wrap64; omega), if_pos hz]
   rfl
  ·rw [if_neg (show ¬ 0 < wrap64 ((p.size : Int) - 0) by unfold wrap64; omega), if_neg hz]
 rw [if_neg h0]
 by_cases h2 : way = 2
 ·have hb := bytes_ok p (by omega) 0 (by omega) p.size (by omega)
  rw [if_pos h2, show wrap64 ((p.size : Int) - 0) = ((p.size : Nat) : Int) by unfold wrap64; omega, show (0 : Int) = ((0 : Nat) : Int) from rfl, hb]
  simp only
  rw [if_neg (by unfold wrap64; omega), List.drop_zero, ← bs_length p, List.take_length, mkB_bs, if_neg (by omega), if_pos h2]
 ·rw [if_neg h2, if_pos (by omega)]
  rfl
theorem get_same (k : Nat) (b : ByteArray) (hb : b.size ≤ 2000) (hk : 100000 < k) : ∃ r, patch_Get.f k b = some r ∧ dioramaref24_Get.f k b = some r := by
 unfold patch_Get.f dioramaref24_Get.f
 obtain ⟨v', l, e', ht⟩ : ∃ v l e, tellG (getM diop b) = (v, l, e) := ⟨_, _, _, rfl⟩
 rw [show (⟨#[68, 73, 79, 80]⟩ : ByteArray) = diop from rfl, frameGet_eq k diop _ (by omega) (by omega), refFrameGet_eq k diop _ (by omega) (by omega), Option.bind_some, Option.bind_some, ht]
 dsimp only
 by_cases he : e' = 0
 ·rw [if_neg (show ¬ e' ≠ 0 from fun h => h he), if_neg (show ¬ e' ≠ 0 from fun h => h he)]
  cases h : getM diop b with
  | error e =>
   rw [h] at ht
   simp only [tellG, Prod.mk.injEq] at ht
   exact absurd (ht.2.2.trans he) (getM_error h)
  | ok x =>
   obtain ⟨v, l2⟩ := x
   rw [h] at ht
   simp only [tellG, Prod.mk.injEq] at ht
   obtain ⟨rfl, rfl, _⟩ := ht
   obtain ⟨_, hg, hbs⟩ := getM_ok h
   by_cases hv : ((v : Nat) : Int) = 2
   ·rw [if_neg (show ¬ ((v : Nat) : Int) ≠ 2 from fun h => h hv), if_neg (show ¬ ((v : Nat) : Int) ≠ 2 from fun h => h hv)]
    match l2, hg, hbs with
    | [s0, s1], hg, hbs =>
     dsimp only
     by_cases h0 : s0.f0 ≠ 1 ∨ s1.f0 ≠ 2 ∨ s0.f1.size ≠ 9
     ·rw [if_pos h0, if_pos h0]
      exact ⟨_, rfl, rfl⟩
     ·rw [if_neg h0, if_neg h0]
      have h9 : s0.f1.size = 9 := by omega
      obtain ⟨s, c1, n1, r1⟩ := num_eq (s0.f1.extract 0 4) (by rw [ByteArray.size_extract]; omega)
      obtain ⟨n, c2, n2, r2⟩ := num_eq (s0.f1.extract 4 8) (by rw [ByteArray.size_extract]; omega)
      rw [c1, c2, n1, n2, Option.bind_some, Option.bind_some, Option.bind_some, Option.bind_some]
      dsimp only
      have hs1 : s1.f1.size ≤ 2000 := by
       have hl := congrArg List.length hbs
       rw [bs_length, List.length_append, List.length_cons] at hl
       have h2 : s1.f1.size ≤ (allB [s0, s1]).length := by
        simp only [allB, secB, List.length_append, List.length_cons, bs_length]
        omega
       omega
      rw [if_pos r2, if_pos r1, if_pos (by omega), if_pos (by unfold roundsOf; omega)]
      exact ⟨_, body_same _ _ _ (bt_range _ _).1 _ (by omega), rfl⟩
    | [], _, _ => exact ⟨_, rfl, rfl⟩
    | [_], _, _ => exact ⟨_, rfl, rfl⟩
    | _ :: _ :: _ :: _, _, _ => exact ⟨_, rfl, rfl⟩
   ·rw [if_pos hv, if_pos hv]
    exact ⟨_, rfl, rfl⟩
 ·rw [if_pos he, if_pos he]
  exact ⟨_, rfl, rfl⟩
theorem PatchGets (b : ByteArray) (_ : b.size ≤ 140737488351232) : ∃ k, dioramalaw24_PatchGets.f k b = some true := by
 refine ⟨100002, ?_⟩
 unfold dioramalaw24_PatchGets.f
 rw [patch_awake _ (by omega), Option.bind_some, if_pos rfl]
 simp only [dioramalaw24_PatchGets.j0]
 by_cases hb : (b.size : Int) > 2000
 ·rw [decide_eq_true hb, if_pos rfl, patch_awake _ (by omega)]
  rfl
 ·rw [decide_eq_false hb, if_neg Bool.false_ne_true]
  obtain ⟨⟨sum, len, way, ops, file, e⟩, h1, h2⟩ := get_same 100001 b (by omega) (by omega)
  rw [h1, h2, Option.bind_some, Option.bind_some]
  dsimp only
  unfold dioramaref24_Same.f
  simp
end Go.Proofs.Ytdjpelcdijpihaa.Pure
