/- Small facts about texts of bytes, and how many sections a file has. -/
import Derived.Test.YtdjpelcdijpihaaFrameGet
namespace Go.Proofs.Ytdjpelcdijpihaa.PrintF
open Go.RowKit Go.Proofs.Ytdjpelcdijpihaa.Print Go.Proofs.YtdjpelcdijpihaaW.PrintWords Go.Proofs.YtdjpelcdijpihaaW.PrintLast
theorem strOf_mkB (l : List Nat) : strOfNums (ints l) = mkB l := by
  apply ByteArray.ext
  apply Array.ext'
  rw [strOf_ints]
  rfl
theorem toList_iff (a b : ByteArray) : a.toList = b.toList ↔ a = b := by
  rw [ByteArray.toList_eq, ByteArray.toList_eq]
  exact ⟨fun h => ByteArray.ext (Array.ext' h), fun h => by rw [h]⟩
theorem le4N_lt (n : Nat) : ∀ c ∈ le4N n, c < 256 := by
  intro c hc
  simp only [le4N, List.mem_cons, List.not_mem_nil, or_false] at hc
  omega
theorem secsE_len : ∀ (m : Nat) (acc : List S52) (r : List Nat) (l : List S52), acc.length ≤ 8 → secsE m acc r = .ok l → l.length ≤ 8
  | 0, acc, r, l, ha, h => by simp only [secsE] at h; cases h; exact ha
  | m + 1, acc, r, l, ha, h => by
    simp only [secsE] at h
    split at h
    · cases h; exact ha
    · split at h
      · cases h
      · split at h
        · cases h
        · exact secsE_len m _ _ _ (by simp; omega) h
theorem getM_len {magic b : ByteArray} {v : Nat} {l : List S52} (h : getM magic b = .ok (v, l)) : l.length ≤ 8 := by
  unfold getM at h
  split at h
  · cases hr : (bs b).drop 4 with
    | nil => rw [hr] at h; cases h
    | cons c r =>
      rw [hr] at h
      simp only [getE] at h
      split at h
      · cases h
      · cases hs : secsE r.length [] r with
        | error e => rw [hs] at h; cases h
        | ok l' =>
          rw [hs] at h
          cases h
          exact secsE_len _ _ _ _ (by simp) hs
  · cases h
end Go.Proofs.Ytdjpelcdijpihaa.PrintF
