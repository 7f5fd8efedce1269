/- The pure statement of the law PatchSizes is true: a patch of what doesn't differ has 26 bytes, one of a whole file at most 32 more than the file. -/
import Derived.Test.YtdjpelcdijpihaaPrintF6
import Derived.Test.YtdjpelcdijpihaaFrameCodec
import Derived.Test.YtdjpelcdijpihaaCrcBytes
namespace Go.Proofs.Ytdjpelcdijpihaa.Pure
open Go.RowKit Go.Proofs.Ytdjpelcdijpihaa.Print Go.Proofs.Ytdjpelcdijpihaa.PrintF Go.Proofs.YtdjpelcdijpihaaW.PrintWords Go.Proofs.YtdjpelcdijpihaaW.PrintLast
theorem patch_awake0 : dioramalaw24_awake.f 100 = some true := by kernel_rfl
theorem leO_le {α : Type} {f : Nat → Option α} (h : ∀ k, LeO (f k) (f (k + 1))) (a : Nat) : ∀ d, LeO (f a) (f (a + d))
  | 0 => LeO.refl _
  | d + 1 => (leO_le h a d).trans (h (a + d))
theorem patch_awake (k : Nat) (hk : 100 ≤ k) : dioramalaw24_awake.f k = some true := by
  obtain ⟨d, rfl⟩ : ∃ d, k = 100 + d := ⟨k - 100, by omega⟩
  exact leO_le dioramalaw24_awake.mono 100 d _ patch_awake0
def diop : ByteArray := ⟨#[68, 73, 79, 80]⟩
theorem framePut_two (s0 s1 : S52) (h0 : goodS s0) (h1 : goodS s1) : ∃ b, frame_Put.f diop 2 [s0, s1] = some (b, 0) ∧ b.size = 5 + ((secB s0).length + (secB s1).length) := by
  have hg : ∀ s ∈ [s0, s1], goodS s := by
    intro s hs
    simp only [List.mem_cons, List.not_mem_nil, or_false] at hs
    rcases hs with rfl | rfl
    · exact h0
    · exact h1
  unfold frame_Put.f
  rw [if_neg (show ¬ diop.size ≠ 4 by decide), if_neg (by decide), if_neg (show ¬ 8 < [s0, s1].length by simp), putL_all _ _ hg]
  refine ⟨_, rfl, ?_⟩
  simp only [ByteArray.size, List.size_toArray, List.length_append, allB, u8s, List.length_map, List.length_nil]
  rfl
theorem vb_small (n : Nat) (h : n ≤ 70000) : 1 ≤ (vb n).length ∧ (vb n).length ≤ 3 := by
  unfold vb
  rw [vbN]
  split
  · simp
  · rw [vbN]
    split
    · simp
    · rw [vbN, if_pos (by omega)]
      simp
theorem secB_size (s : S52) : (secB s).length = 1 + (vb s.f1.size).length + s.f1.size + 4 := by
  have : (bs s.f1).length = s.f1.size := bs_length _
  simp only [secB, List.length_cons, List.length_append, le4N_len, this]
  omega
theorem put_sized (k : Nat) (sum n way : Int) (p : ByteArray) (hp : p.size ≤ 70000) (hw : way = 0 ∧ p = ⟨#[]⟩ ∨ way = 2) (hn : 0 ≤ n ∧ n ≤ 4294967295) :
    ∃ b, patch_Put.f (k + 1) sum n way [] p = some (b, 0) ∧ b.size = 25 + p.size + (vb p.size).length := by
  obtain ⟨first, hfirst⟩ : ∃ first, first = (strOfNums (le4 sum) ++ strOfNums (le4 (n % 4294967296))) ++ strOfNums [way % 256] := ⟨_, rfl⟩
  have h9 : first.size = 9 := by
    rw [hfirst, ByteArray.size_append, ByteArray.size_append, strOfNums_size, strOfNums_size, strOfNums_size]
    rfl
  obtain ⟨b, hb, hs⟩ := framePut_two ⟨1, first⟩ ⟨2, p⟩ ⟨show (1 : Int) ≤ 1 by decide, show (1 : Int) ≤ 255 by decide, show first.size ≤ 16777216 by omega⟩ ⟨show (1 : Int) ≤ 2 by decide, show (2 : Int) ≤ 255 by decide, show p.size ≤ 16777216 by omega⟩
  refine ⟨b, ?_, ?_⟩
  · have hj : patch_Put.j0 (k + 1) false sum n way [] p = some (b, 0) := by
      rw [patch_Put.j0, if_neg Bool.false_ne_true, if_neg (by omega), put_eq, Option.bind_some, put_eq, Option.bind_some, if_pos (by rw [strOfNums_size, strOfNums_size]; simp [le4]), Option.bind_some, ← hfirst, if_pos (by rw [ByteArray.size_append, strOfNums_size, strOfNums_size, strOfNums_size]; simp [le4]),
        show (⟨#[68, 73, 79, 80]⟩ : ByteArray) = diop from rfl, hb]
      rfl
    have hl : ¬ (([] : List S107).length : Int) > 0 := by decide
    unfold patch_Put.f
    rw [if_neg (by omega), if_neg (by omega), if_neg (by omega), if_neg (by omega), if_neg hl]
    rcases hw with ⟨rfl, rfl⟩ | rfl
    · rw [if_pos (by decide +kernel)]; exact hj
    · split
      · exact hj
      · exact hj
  · rw [hs, secB_size, secB_size]
    simp only [h9]
    have : (vb 9).length = 1 := by decide
    omega
theorem PatchSizes : dioramalaw24_PatchSizes.Pure := by
  intro a0 a1 a2 w0 w1 w2
  refine ⟨101 + 1, ?_⟩
  have ht : dioramalaw24_PatchSizes.j0 (101 + 1) a0 a1 a2 true = some true := by
    rw [dioramalaw24_PatchSizes.j0, if_pos rfl, patch_awake _ (by omega)]
    rfl
  unfold dioramalaw24_PatchSizes.f
  rw [patch_awake _ (by omega), Option.bind_some, if_pos rfl]
  by_cases h0 : a1 < 0
  · rw [if_pos h0]; exact ht
  by_cases h1 : a1 > 4294967295
  · rw [if_neg h0, if_pos h1]; exact ht
  rw [if_neg h0, if_neg h1]
  by_cases h2 : (a2.size : Int) > 70000
  · rw [decide_eq_true h2]; exact ht
  rw [decide_eq_false h2]
  obtain ⟨b, hb, hs⟩ := put_sized 100 a0 a1 0 ⟨#[]⟩ (by decide) (.inl ⟨rfl, rfl⟩) (by omega)
  obtain ⟨c, hc, hcs⟩ := put_sized 100 a0 a1 2 a2 (by omega) (.inr rfl) (by omega)
  have hv := vb_small a2.size (by omega)
  have hbs : b.size = 26 := by rw [hs]; decide
  rw [dioramalaw24_PatchSizes.j0, if_neg Bool.false_ne_true, hb, Option.bind_some, hc, Option.bind_some, if_pos rfl, if_pos (by simp only; omega), if_pos rfl,
    if_pos (show (c.size : Int) ≥ wrap64 (26 + (a2.size : Int)) by unfold wrap64; omega)]
  congr 1
  exact decide_eq_true (show (c.size : Int) ≤ wrap64 (32 + (a2.size : Int)) by unfold wrap64; omega)
end Go.Proofs.Ytdjpelcdijpihaa.Pure
