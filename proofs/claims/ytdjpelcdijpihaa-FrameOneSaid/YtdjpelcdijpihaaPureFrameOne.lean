/- The pure statement of the law FrameOne is true: within the sizes that the row gives, bytes that are got are put as they were. -/
import Derived.Test.YtdjpelcdijpihaaFrameCodec
import Derived.Test.YtdjpelcdijpihaaPureFrameGets
namespace Go.Proofs.Ytdjpelcdijpihaa.Pure
open Go.RowKit Go.Proofs.Ytdjpelcdijpihaa.Print Go.Proofs.Ytdjpelcdijpihaa.PrintF Go.Proofs.YtdjpelcdijpihaaW.PrintWords Go.Proofs.YtdjpelcdijpihaaW.PrintLast
theorem secsE_error : ∀ (m : Nat) (acc : List S52) (r : List Nat) (e : Int), secsE m acc r = .error e → e ≠ 0
  | 0, acc, r, e, h => by simp only [secsE] at h; cases h
  | m + 1, acc, r, e, h => by
    simp only [secsE] at h
    split at h
    · cases h
    · rename_i hne
      split at h
      · cases h; decide
      · split at h
        · rename_i e' he
          cases h
          exact secE_error _ _ he hne
        · exact secsE_error m _ _ _ h
theorem getM_error {m b : ByteArray} {e : Int} (h : getM m b = .error e) : e ≠ 0 := by
  unfold getM at h
  split at h
  · cases hr : (bs b).drop 4 with
    | nil => rw [hr] at h; cases h; decide
    | cons c r =>
      rw [hr] at h
      simp only [getE] at h
      split at h
      · cases h; decide
      · split at h
        · rename_i e' hs
          cases h
          exact secsE_error _ _ _ _ hs
        · cases h
  · cases h; decide
/-- What a file that is got is. -/
theorem getM_ok {m b : ByteArray} {v : Nat} {l : List S52} (h : getM m b = .ok (v, l)) : m.size = 4 ∧ v ≠ 0 ∧ v < 256 ∧ l.length ≤ 8 ∧ (∀ s ∈ l, goodS s) ∧ bs b = bs m ++ v :: allB l := by
  have hlen := getM_len h
  unfold getM at h
  split at h
  · rename_i hm
    cases hr : (bs b).drop 4 with
    | nil => rw [hr] at h; cases h
    | cons c r =>
      have hlt : ∀ x ∈ c :: r, x < 256 := by rw [← hr]; exact drop_lt (bs_lt b) 4
      rw [hr] at h
      simp only [getE] at h
      split at h
      · cases h
      · rename_i hc
        split at h
        · cases h
        · rename_i l' hs
          cases h
          obtain ⟨l2, hl2, hg, hrr⟩ := secsE_got _ _ _ _ (Nat.le_refl _) (fun x hx => hlt x (by simp [hx])) hs
          simp only [List.nil_append] at hl2
          subst hl2
          refine ⟨hm.1, hc, hlt _ (by simp), hlen, hg, ?_⟩
          have ht : (bs b).take 4 = bs m := by
            have := List.prefix_iff_eq_take.1 hm.2
            rw [bs_length, hm.1] at this
            exact this.symm
          rw [← List.take_append_drop 4 (bs b), ht, hr, hrr]
  · cases h
theorem data_u8s (a : ByteArray) : a.data.toList = u8s (bs a) := (u8s_toN a.data.toList).symm
theorem FrameOne : dioramalaw04_FrameOne.Pure := by
  intro m b hm hb
  refine ⟨(6 * b.size + 200) + 1, ?_⟩
  have ht : dioramalaw04_FrameOne.j0 ((6 * b.size + 200) + 1) m b true = some true := by
    simp only [dioramalaw04_FrameOne.j0]
    rw [if_pos trivial, frame_awake _ (by omega)]
    rfl
  have hf : dioramalaw04_FrameOne.j0 ((6 * b.size + 200) + 1) m b false = some true := by
    simp only [dioramalaw04_FrameOne.j0]
    rw [if_neg Bool.false_ne_true, frameGet_eq _ m b (by omega) (by omega), Option.bind_some]
    cases h : getM m b with
    | error e =>
      simp only [tellG]
      rw [if_neg (getM_error h), if_pos trivial]
      rfl
    | ok x =>
      obtain ⟨v, l⟩ := x
      obtain ⟨h4, hv, hv2, hl, hg, hbs⟩ := getM_ok h
      simp only [tellG]
      unfold frame_Put.f
      rw [if_pos trivial, if_neg (by simpa using h4), if_neg (by omega), if_neg (by omega), Option.bind_some, putL_all l _ hg]
      simp only
      rw [if_pos trivial]
      congr 1
      rw [beq_iff_eq, toList_iff]
      apply ByteArray.ext
      apply Array.ext'
      have e : idN (v : Int) = UInt8.ofNat v := by
        unfold idN
        congr 1
        omega
      rw [data_u8s b, hbs]
      simp [data_u8s m, u8s, e]
  unfold dioramalaw04_FrameOne.f
  rw [frame_awake _ (by omega), Option.bind_some, if_pos rfl, ht]
  split
  · rfl
  · cases decide ((m.size : Int) > 100)
    · exact hf
    · exact ht
end Go.Proofs.Ytdjpelcdijpihaa.Pure
