/- great tells whether a list of sections is more than is played; a list that is not great makes a short file, and a file put is got as it was. -/
import Derived.Test.YtdjpelcdijpihaaPrintF5
import Derived.Test.YtdjpelcdijpihaaFrameCodec
namespace Go.Proofs.Ytdjpelcdijpihaa.Pure
open Go.RowKit Go.Proofs.Ytdjpelcdijpihaa.Print Go.Proofs.Ytdjpelcdijpihaa.PrintF Go.Proofs.YtdjpelcdijpihaaW.PrintWords Go.Proofs.YtdjpelcdijpihaaW.PrintLast
def small (l : List S52) : Prop := l.length ≤ 20 ∧ ∀ s ∈ l, s.f1.size ≤ 1000
theorem great_l0 (l : List S52) (hl : l.length ≤ 20) : ∀ (d k i : Nat), l.length - i = d → i ≤ l.length → d < k → ∃ r, dioramalaw04_great.l0 k l (l.length : Int) (i : Int) = some r ∧ (r = false → ∀ j, i ≤ j → (h : j < l.length) → l[j].f1.size ≤ 1000)
  | 0, k + 1, i, hd, hi, hk => by
    refine ⟨false, ?_, fun _ j h1 h2 => by omega⟩
    simp only [dioramalaw04_great.l0]
    rw [if_neg (by omega)]
  | d + 1, k + 1, i, hd, hi, hk => by
    have hlt : i < l.length := by omega
    simp only [dioramalaw04_great.l0]
    rw [if_pos (by omega), if_pos (by omega), if_pos (by omega)]
    have hrd : rd_T52 l (i : Int) = l[i] := by
      unfold rd_T52
      rw [List.getD_eq_getElem?_getD, Int.toNat_natCast, List.getElem?_eq_getElem hlt]
      rfl
    rw [hrd]
    by_cases hb : ((l[i].f1).size : Int) > 1000
    · exact ⟨true, by rw [if_pos hb], fun h => by cases h⟩
    · obtain ⟨r, hr, hh⟩ := great_l0 l hl d k (i + 1) (by omega) (by omega) (by omega)
      refine ⟨r, ?_, fun h j h1 h2 => ?_⟩
      · rw [if_neg hb, wrap_inc (by omega) (by omega), show ((i : Int) + 1) = ((i + 1 : Nat) : Int) by omega]
        exact hr
      · rcases Nat.lt_or_ge i j with h3 | h3
        · exact hh h j (by omega) h2
        · obtain rfl : i = j := by omega
          omega
theorem great_eq (k : Nat) (hk : 21 < k) (l : List S52) : ∃ r, dioramalaw04_great.f k l = some r ∧ (r = false → small l) := by
  unfold dioramalaw04_great.f
  by_cases h : (l.length : Int) > 20
  · exact ⟨true, by rw [if_pos h], fun h => by cases h⟩
  · obtain ⟨r, hr, hh⟩ := great_l0 l (by omega) l.length k 0 (by omega) (by omega) (by omega)
    refine ⟨r, by rw [if_neg h]; exact hr, fun h2 => ⟨by omega, fun s hs => ?_⟩⟩
    obtain ⟨j, hj, rfl⟩ := List.mem_iff_getElem.1 hs
    exact hh h2 j (by omega) hj
theorem secB_len (s : S52) : (secB s).length ≤ s.f1.size + 15 := by
  have := vb_len s.f1.size
  simp only [secB, List.length_cons, List.length_append, bs_length, le4N_len]
  omega
theorem allB_small : ∀ l : List S52, (∀ s ∈ l, s.f1.size ≤ 1000) → (allB l).length ≤ 1015 * l.length
  | [], _ => by simp [allB]
  | s :: l, h => by
    have h1 := allB_small l (fun x hx => h x (by simp [hx]))
    have h2 := secB_len s
    have h3 := h s (by simp)
    simp only [allB, List.length_append, List.length_cons]
    omega
theorem allB_lt : ∀ l : List S52, (∀ s ∈ l, goodS s) → ∀ c ∈ allB l, c < 256
  | [], _ => by simp [allB]
  | s :: l, h => by
    intro c hc
    rcases List.mem_append.1 hc with hc | hc
    · exact secB_lt (h s (by simp)) c hc
    · exact allB_lt l (fun x hx => h x (by simp [hx])) c hc
def dior : ByteArray := ⟨#[68, 73, 79, 82]⟩
/-- What a file that is put with the word DIOR is. -/
def fileB (v : Nat) (l : List S52) : List Nat := [68, 73, 79, 82, v] ++ allB l
theorem framePut_dior (version : Int) (l : List S52) : ∃ b e, frame_Put.f dior version l = some (b, e) ∧ (e ≠ 0 → b = ⟨#[]⟩) ∧ (e = 0 → 1 ≤ version ∧ version ≤ 255 ∧ l.length ≤ 8 ∧ (∀ s ∈ l, goodS s) ∧ b = mkB (fileB version.toNat l)) := by
  unfold frame_Put.f
  rw [if_neg (show ¬ dior.size ≠ 4 by decide)]
  by_cases h1 : version < 1 ∨ 255 < version
  · exact ⟨_, _, by rw [if_pos h1], fun _ => rfl, fun h => by cases h⟩
  · by_cases h2 : 8 < l.length
    · exact ⟨_, _, by rw [if_neg h1, if_pos h2], fun _ => rfl, fun h => by cases h⟩
    · refine ⟨_, _, by rw [if_neg h1, if_neg h2], fun h => ?_, fun h => ?_⟩
      · rw [putL_bad _ _ h]
      · have hg := putL_ok _ _ h
        refine ⟨by omega, by omega, by omega, hg, ?_⟩
        rw [putL_all _ _ hg]
        unfold mkB fileB
        congr 2
        rw [u8s_append]
        congr 1
        have : idN version = UInt8.ofNat version.toNat := by
          unfold idN
          congr 1
          omega
        rw [this]
        rfl
theorem fileB_lt {v : Nat} (hv : v < 256) {l : List S52} (h : ∀ s ∈ l, goodS s) : ∀ c ∈ fileB v l, c < 256 := by
  intro c hc
  simp only [fileB, List.mem_append, List.mem_cons, List.not_mem_nil, or_false] at hc
  rcases hc with (rfl | rfl | rfl | rfl | rfl) | hc
  · decide
  · decide
  · decide
  · decide
  · exact hv
  · exact allB_lt l h c hc
theorem getM_dior (r : List Nat) (hr : ∀ c ∈ r, c < 256) : getM dior (mkB ([68, 73, 79, 82] ++ r)) = getE r := by
  have hb : bs (mkB ([68, 73, 79, 82] ++ r)) = [68, 73, 79, 82] ++ r := bs_mkB (fun c hc => by
    rcases List.mem_append.1 hc with hc | hc
    · simp only [List.mem_cons, List.not_mem_nil, or_false] at hc; omega
    · exact hr c hc)
  unfold getM
  rw [hb, if_pos ⟨by decide, by rw [show bs dior = [68, 73, 79, 82] by decide]; exact List.prefix_append _ _⟩]
  rfl
theorem getM_file {v : Nat} (hv : 1 ≤ v ∧ v < 256) {l : List S52} (h : ∀ s ∈ l, goodS s) (hl : l.length ≤ 8) : getM dior (mkB (fileB v l)) = .ok (v, l) := by
  have : fileB v l = [68, 73, 79, 82] ++ (v :: allB l) := by simp [fileB]
  rw [this, getM_dior _ (fun c hc => by
    rcases List.mem_cons.1 hc with rfl | hc
    · exact hv.2
    · exact allB_lt l h c hc)]
  simp only [getE]
  rw [if_neg (by omega), secsE_put l _ [] h (allB_len l) (by simpa using hl)]
  rfl
end Go.Proofs.Ytdjpelcdijpihaa.Pure
