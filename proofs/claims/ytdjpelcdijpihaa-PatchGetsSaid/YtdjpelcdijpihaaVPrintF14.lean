/- A part of the proof of the claim: what it uses of the texts PatchPlain, HandRefE, PrintF14 (printed by xprint.py), PurePatchPuts0, PurePatchPuts, PrintG10 (printed by xprint.py), PurePatchOne. -/
import Derived.Test.YtdjpelcdijpihaaVHandPatchGet
import Derived.Test.YtdjpelcdijpihaaVHandPut
import Derived.Test.YtdjpelcdijpihaaVFrameCodec
import Derived.Test.YtdjpelcdijpihaaVCrcBytes
import Derived.Test.YtdjpelcdijpihaaVHandRefA
import Derived.Test.YtdjpelcdijpihaaVPrintF0
import Derived.Test.YtdjpelcdijpihaaVPrintF8
import Derived.Test.YtdjpelcdijpihaaVPrintF4
import Derived.Test.YtdjpelcdijpihaaVHandFrame
import Derived.Test.YtdjpelcdijpihaaVHandSame
namespace Go.Proofs.Ytdjpelcdijpihaa.Pure
open Go.RowKit Go.Proofs.Ytdjpelcdijpihaa.Print Go.Proofs.Ytdjpelcdijpihaa.PrintF Go.Proofs.YtdjpelcdijpihaaW.PrintWords Go.Proofs.YtdjpelcdijpihaaW.PrintLast
def diop : ByteArray := ⟨#[68, 73, 79, 80]⟩
end Go.Proofs.Ytdjpelcdijpihaa.Pure
namespace Go.Proofs.Ytdjpelcdijpihaa.PrintF
open Go.RowKit Go.Proofs.Ytdjpelcdijpihaa.Print Go.Proofs.YtdjpelcdijpihaaW.PrintWords Go.Proofs.YtdjpelcdijpihaaW.PrintLast Go.Lib
set_option linter.unusedVariables false
set_option linter.unusedSimpArgs false
theorem d3 (n : Nat) : ((n : Int) == 0) = (!false && (true && (true && decide (n = 0)))) := by by_cases h : n = 0 <;> simp [h]
end Go.Proofs.Ytdjpelcdijpihaa.PrintF
namespace Go.Proofs.Ytdjpelcdijpihaa.PrintF
open Go.Proofs.Ytdjpelcdijpihaa.Print
open Go.RowKit Go.Proofs.YtdjpelcdijpihaaW.PrintWords Go.Proofs.YtdjpelcdijpihaaW.PrintLast Go.Proofs.YtdjpelcdijpihaaW.PrintMore
attribute [local go_sem] max2_int min2_int max_two min_two
set_option linter.unusedVariables false
set_option linter.unusedSimpArgs false
end Go.Proofs.Ytdjpelcdijpihaa.PrintF
namespace Go.Proofs.Ytdjpelcdijpihaa.Pure
open Go.RowKit Go.Proofs.Ytdjpelcdijpihaa.Print Go.Proofs.Ytdjpelcdijpihaa.PrintF Go.Proofs.YtdjpelcdijpihaaW.PrintWords Go.Proofs.YtdjpelcdijpihaaW.PrintLast
theorem d0 (n : Nat) : ((n : Int) == 0) = decide (n = 0) := by by_cases h : n = 0 <;> simp [h]
end Go.Proofs.Ytdjpelcdijpihaa.Pure
namespace Go.Proofs.Ytdjpelcdijpihaa.Pure
open Go.RowKit Go.Proofs.Ytdjpelcdijpihaa.Print Go.Proofs.Ytdjpelcdijpihaa.PrintF Go.Proofs.YtdjpelcdijpihaaW.PrintWords Go.Proofs.YtdjpelcdijpihaaW.PrintLast
theorem patch_awake0 : dioramalaw24_awake.f 100 = some true := by kernel_rfl
theorem leO_le {α : Type} {f : Nat → Option α} (h : ∀ k, LeO (f k) (f (k + 1))) (a : Nat) : ∀ d, LeO (f a) (f (a + d))
 | 0 => LeO.refl _
 | d + 1 => (leO_le h a d).trans (h (a + d))
theorem patch_awake (k : Nat) (hk : 100 ≤ k) : dioramalaw24_awake.f k = some true := by
 obtain ⟨d, rfl⟩ : ∃ d, k = 100 + d := ⟨k - 100, by omega⟩
 exact leO_le dioramalaw24_awake.mono 100 d _ patch_awake0
end Go.Proofs.Ytdjpelcdijpihaa.Pure
namespace Go.Proofs.Ytdjpelcdijpihaa.PrintF
open Go.Proofs.Ytdjpelcdijpihaa.Print
open Go.RowKit Go.Proofs.YtdjpelcdijpihaaW.PrintWords Go.Proofs.YtdjpelcdijpihaaW.PrintLast Go.Proofs.YtdjpelcdijpihaaW.PrintMore
attribute [local go_sem] max2_int min2_int max_two min_two
set_option linter.unusedVariables false
set_option linter.unusedSimpArgs false
end Go.Proofs.Ytdjpelcdijpihaa.PrintF
namespace Go.Proofs.Ytdjpelcdijpihaa.Pure
open Go.RowKit Go.Proofs.Ytdjpelcdijpihaa.Print Go.Proofs.Ytdjpelcdijpihaa.PrintF Go.Proofs.YtdjpelcdijpihaaW.PrintWords Go.Proofs.YtdjpelcdijpihaaW.PrintLast
theorem secsE_error : ∀ (m : Nat) (acc : List S52) (r : List Nat) (e : Int), secsE m acc r = .error e → e ≠ 0
 | 0, acc, r, e, h => by simp only [secsE] at h; cases h
 | m + 1, acc, r, e, h => by
  simp only [secsE] at h
  split at h
  ·cases h
  ·rename_i hne
   split at h
   ·cases h; decide
   ·split at h
    ·rename_i e' he
     cases h
     exact secE_error _ _ he hne
    ·exact secsE_error m _ _ _ h
theorem getM_error {m b : ByteArray} {e : Int} (h : getM m b = .error e) : e ≠ 0 := by
 unfold getM at h
 split at h
 ·cases hr : (bs b).drop 4 with
  | nil => rw [hr] at h; cases h; decide
  | cons c r =>
   rw [hr] at h
   simp only [getE] at h
   split at h
   ·cases h; decide
   ·split at h
    ·rename_i e' hs
     cases h
     exact secsE_error _ _ _ _ hs
    ·cases h
 ·cases h; decide
theorem getM_ok {m b : ByteArray} {v : Nat} {l : List S52} (h : getM m b = .ok (v, l)) : m.size = 4 ∧ (∀ s ∈ l, goodS s) ∧ bs b = bs m ++ v :: allB l := by
 unfold getM at h
 split at h
 ·rename_i hm
  cases hr : (bs b).drop 4 with
  | nil => rw [hr] at h; cases h
  | cons c r =>
   have hlt : ∀ x ∈ c :: r, x < 256 := by rw [← hr]; exact drop_lt (bs_lt b) 4
   rw [hr] at h
   simp only [getE] at h
   split at h
   ·cases h
   ·rename_i hc
    split at h
    ·cases h
    ·rename_i l' hs
     cases h
     obtain ⟨l2, hl2, hg, hrr⟩ := secsE_got _ _ _ _ (Nat.le_refl _) (fun x hx => hlt x (by simp [hx])) hs
     simp only [List.nil_append] at hl2
     subst hl2
     refine ⟨hm.1, hg, ?_⟩
     have ht : (bs b).take 4 = bs m := by
      have := List.prefix_iff_eq_take.1 hm.2
      rw [bs_length, hm.1] at this
      exact this.symm
     rw [← List.take_append_drop 4 (bs b), ht, hr, hrr]
 ·cases h
end Go.Proofs.Ytdjpelcdijpihaa.Pure
