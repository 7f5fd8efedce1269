/- A part of the proof of the claim: what it uses of the text PurePatchBack. -/
import Derived.Test.YtdjpelcdijpihaaYPatchPlain
import Derived.Test.YtdjpelcdijpihaaYPurePatchPuts
import Derived.Test.YtdjpelcdijpihaaYPrintG10
namespace Go.Proofs.Ytdjpelcdijpihaa.Pure
open Go.RowKit Go.Proofs.Ytdjpelcdijpihaa.Print Go.Proofs.Ytdjpelcdijpihaa.PrintF Go.Proofs.YtdjpelcdijpihaaW.PrintWords Go.Proofs.YtdjpelcdijpihaaW.PrintLast
theorem secB_len (s : S52) : (secB s).length ≤ s.f1.size + 15 := by
 have h1 : (bs s.f1).length = s.f1.size := bs_length _
 have h2 := vb_len s.f1.size
 simp only [secB, List.length_cons, List.length_append, le4N_len, h1]
 omega
theorem file_size (sum len way : Int) (p : ByteArray) : (fileP sum len way p).size ≤ p.size + 60 := by
 have h1 := secB_len ⟨1, firstP sum len way⟩
 have h2 := secB_len ⟨2, p⟩
 simp only [first_size] at h1 h2
 unfold fileP
 rw [mkB_size, List.length_append, bs_length, List.length_cons]
 simp only [secs, allB, List.length_append, List.length_nil]
 have : diop.size = 4 := by decide
 omega
theorem getP (k : Nat) (sum len way : Int) (p : ByteArray) (hs : 0 ≤ sum ∧ sum ≤ 4294967295) (hl : 0 ≤ len ∧ len ≤ 4294967295) (hw : 0 ≤ way ∧ way ≤ 255) (hp : p.size ≤ 16777216) (hk : 4 * p.size + 300 < k) :
  patch_Get.f k (fileP sum len way p) = patch_Get.body sum len way p := by
 have hz := file_size sum len way p
 obtain ⟨h1, h2, h3⟩ := first_gets sum len way hs hl hw
 unfold patch_Get.f
 rw [show (⟨#[68, 73, 79, 80]⟩ : ByteArray) = diop from rfl, frameGet_eq k diop _ (by omega) (by omega), get_file sum len way hp, Option.bind_some]
 simp only [tellG, secs]
 rw [if_neg (by simp), if_neg (by simp), if_neg (by simp [first_size]), h1, Option.bind_some, h2, Option.bind_some, if_pos hl, h3]
theorem body_put {sum len : Int} {way : Int} {ops : List S107} {file p : ByteArray} (h : way = 0 ∧ ops = [] ∧ file = ⟨#[]⟩ ∧ p = ⟨#[]⟩ ∨ way = 2 ∧ ops = [] ∧ p = file ∧ p.size ≤ 16777216 ∨
  way = 1 ∧ file = ⟨#[]⟩ ∧ p = ⟨(opsB ops).toArray⟩ ∧ opsNo ops = false ∧ (∀ o ∈ ops, okNums o) ∧ (opsB ops).length ≤ 16777216) : patch_Get.body sum len way p = some (sum, len, way, ops, file, 0) := by
 rcases h with ⟨rfl, rfl, rfl, rfl⟩ | ⟨rfl, rfl, rfl, hz⟩ | ⟨rfl, rfl, rfl, hno, hok, hz⟩
 ·unfold patch_Get.body
  rw [if_neg (by decide), if_pos rfl, if_neg (by rw [show (⟨#[]⟩ : ByteArray).size = 0 from rfl]; unfold wrap64; omega)]
 ·unfold patch_Get.body
  have hb := bytes_ok p (by omega) 0 (by omega) p.size (by omega)
  rw [if_neg (by decide), if_neg (by decide), if_pos rfl, show wrap64 ((p.size : Int) - 0) = ((p.size : Nat) : Int) by unfold wrap64; omega, show (0 : Int) = ((0 : Nat) : Int) from rfl, hb]
  simp only
  rw [if_neg (by unfold wrap64; omega), List.drop_zero, ← bs_length p, List.take_length, mkB_bs]
 ·have hsz : (⟨(opsB ops).toArray⟩ : ByteArray).size = (opsB ops).length := by simp [ByteArray.size]
  unfold patch_Get.body
  rw [if_pos rfl, if_pos (by rw [hsz]; omega)]
  unfold opsNo at hno
  obtain ⟨hn, ha⟩ := or_false_l hno
  have hc := countP_put (step := opP) (B := opB) (l := ops) hn (fun o ho => opP_put (any_no ha o ho) (hok o ho)) []
  have hb : bs ⟨(opsB ops).toArray⟩ = toN (numB ops.length) ++ (toN (ops.flatMap opB) ++ []) := by
   rw [List.append_nil, ← toN_append]
   rfl
  rw [hb, hc]
  rfl
theorem ok_of {ops : List S107} (h : ops.all okOpB = true) : ∀ o ∈ ops, okNums o := by
 intro o ho
 have := List.all_eq_true.1 h o ho
 unfold okOpB at this
 rw [Bool.and_eq_true, List.all_eq_true, List.all_eq_true] at this
 exact ⟨fun s hs => of_decide_eq_true (this.1 s hs), fun v hv => of_decide_eq_true (this.2 v hv)⟩
theorem str_none {s : ByteArray} (h : s.toList.isEmpty = true) : s = ⟨#[]⟩ := str_nil (by rw [h]; rfl)
theorem PatchBack (sum len way : Int) (ops : List S107) (file : ByteArray) (hs : 0 ≤ sum ∧ sum ≤ 4294967295) (hok : ops.all okOpB = true) : ∃ k, dioramalaw24_PatchBack.f k sum len way ops file = some true := by
 refine ⟨100000000 + 1, ?_⟩
 obtain ⟨K, hK⟩ : ∃ K, K = 100000000 := ⟨_, rfl⟩
 rw [← hK]
 have ht : dioramalaw24_PatchBack.j0 (K + 1) true sum len way ops file = some true := by
  simp only [dioramalaw24_PatchBack.j0]
  rw [if_pos trivial, patch_awake _ (by omega)]
  rfl
 unfold dioramalaw24_PatchBack.f
 rw [patch_awake _ (by omega), Option.bind_some, if_pos rfl]
 obtain ⟨r, hr, hsm⟩ := great24 (K + 1) (by omega) sum len way ops file
 rw [hr, Option.bind_some]
 cases r with
 | true => exact ht
 | false =>
  obtain ⟨hl, hop, hf⟩ := hsm rfl
  simp only [dioramalaw24_PatchBack.j0]
  rw [if_neg Bool.false_ne_true]
  have bad : ∀ e : Int, e ≠ 0 → patch_Put.f sum len way ops file = some (⟨#[]⟩, e) → (patch_Put.f sum len way ops file).bind (fun bt => if bt.2 = 0 then (patch_Get.f K bt.1).bind fun x => (if x.2.2.2.2.2 = 0 then ((dioramaref24_Same.f K x.1 x.2.1 x.2.2.1 x.2.2.2.1 x.2.2.2.2.1 sum len way ops file).bind fun t => some t) else some false) else some (bt.1.toList == ([] : List UInt8))) = some true := by
   intro e he h
   rw [h, Option.bind_some]
   simp only
   rw [if_neg he, ByteArray.toList_eq]
   rfl
  have good : ∀ p, (0 ≤ len ∧ len ≤ 4294967295) → patch_Put.f sum len way ops file = some (fileP sum len way p, 0) → p.size ≤ 16777216 → (0 ≤ way ∧ way ≤ 255) →
    (way = 0 ∧ ops = [] ∧ file = ⟨#[]⟩ ∧ p = ⟨#[]⟩ ∨ way = 2 ∧ ops = [] ∧ p = file ∧ p.size ≤ 16777216 ∨ way = 1 ∧ file = ⟨#[]⟩ ∧ p = ⟨(opsB ops).toArray⟩ ∧ opsNo ops = false ∧ (∀ o ∈ ops, okNums o) ∧ (opsB ops).length ≤ 16777216) →
    (patch_Put.f sum len way ops file).bind (fun bt => if bt.2 = 0 then (patch_Get.f K bt.1).bind fun x => (if x.2.2.2.2.2 = 0 then ((dioramaref24_Same.f K x.1 x.2.1 x.2.2.1 x.2.2.2.1 x.2.2.2.2.1 sum len way ops file).bind fun t => some t) else some false) else some (bt.1.toList == ([] : List UInt8))) = some true := by
   intro p hln h hp hw hb
   rw [h, Option.bind_some]
   simp only
   rw [if_pos trivial, getP K sum len way p hs hln hw hp (by omega), body_put hb, Option.bind_some]
   simp only
   rw [if_pos trivial]
   unfold dioramaref24_Same.f
   rw [if_pos ⟨rfl, rfl, rfl, rfl, rfl⟩]
   rfl
  by_cases c1 : way < 0 ∨ 2 < way ∨ len < 0 ∨ 4294967295 < len
  ·exact bad 1 (by decide) (by unfold patch_Put.f; rw [if_pos c1])
  by_cases c2 : 0 < ops.length ∧ way ≠ 1
  ·exact bad 1 (by decide) (by unfold patch_Put.f; rw [if_neg c1, if_pos c2])
  by_cases c3 : file.toList.isEmpty = false ∧ way ≠ 2
  ·exact bad 1 (by decide) (by unfold patch_Put.f; rw [if_neg c1, if_neg c2, if_pos c3])
  have hsz := opsB_small hl hop
  have hz : (⟨(opsB ops).toArray⟩ : ByteArray).size = (opsB ops).length := by simp [ByteArray.size]
  have hemp : way ≠ 2 → file = ⟨#[]⟩ := fun h => str_none (by
   cases hx : file.toList.isEmpty with
   | true => rfl
   | false => exact absurd ⟨hx, h⟩ c3)
  by_cases c4 : way = 1
  ·cases hno : opsNo ops with
   | true => exact bad 21 (by decide) (by unfold patch_Put.f; rw [if_neg c1, if_neg c2, if_neg c3, if_pos c4, if_neg (by omega), if_pos hno])
   | false =>
    refine good ⟨(opsB ops).toArray⟩ (by omega) ?_ (by rw [hz]; omega) (by omega) (.inr (.inr ⟨c4, hemp (by omega), rfl, hno, ok_of hok, by omega⟩))
    unfold patch_Put.f
    rw [if_neg c1, if_neg c2, if_neg c3, if_pos c4, if_neg (by omega), if_neg (by rw [hno]; exact Bool.false_ne_true), tail_file _ _ _ (by rw [hz]; omega), c4]
  ·have ho : ops = [] := List.eq_nil_of_length_eq_zero (by
    by_cases h : 0 < ops.length
    ·exact absurd ⟨h, c4⟩ c2
    ·omega)
   have hput : patch_Put.f sum len way ops file = some (fileP sum len way file, 0) := by
    unfold patch_Put.f
    rw [if_neg c1, if_neg c2, if_neg c3, if_neg c4, tail_file _ _ _ (by omega)]
   by_cases c5 : way = 2
   ·exact good file (by omega) hput (by omega) (by omega) (.inr (.inl ⟨c5, ho, rfl, by omega⟩))
   ·exact good file (by omega) hput (by omega) (by omega) (.inl ⟨by omega, ho, hemp c5, hemp c5⟩)
end Go.Proofs.Ytdjpelcdijpihaa.Pure
