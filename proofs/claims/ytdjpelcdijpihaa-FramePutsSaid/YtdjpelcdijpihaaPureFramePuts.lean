/- The pure statement of the law FramePuts is true: any sections have the bytes that the reference says. -/
import Derived.Test.YtdjpelcdijpihaaPrintF6
import Derived.Test.YtdjpelcdijpihaaPrintF7
import Derived.Test.YtdjpelcdijpihaaFrameRefPut
namespace Go.Proofs.Ytdjpelcdijpihaa.Pure
open Go.RowKit Go.Proofs.Ytdjpelcdijpihaa.Print Go.Proofs.Ytdjpelcdijpihaa.PrintF Go.Proofs.YtdjpelcdijpihaaW.PrintWords Go.Proofs.YtdjpelcdijpihaaW.PrintLast
theorem great_l0 (l : List S52) (hl : l.length ≤ 20) : ∀ (d k i : Nat), l.length - i = d → i ≤ l.length → d < k → ∃ r, dioramalaw04_great.l0 k l (l.length : Int) (i : Int) = some r ∧ (r = false → ∀ j, i ≤ j → (h : j < l.length) → l[j].f1.size ≤ 1000)
  | 0, k + 1, i, hd, hi, hk => by
    refine ⟨false, ?_, fun _ j h1 h2 => by omega⟩
    simp only [dioramalaw04_great.l0]
    rw [if_neg (by omega)]
  | d + 1, k + 1, i, hd, hi, hk => by
    have hlt : i < l.length := by omega
    simp only [dioramalaw04_great.l0]
    rw [if_pos (by omega), if_pos (by omega), if_pos (by omega)]
    have hrd : rd_T52 l (i : Int) = l[i] := by
      unfold rd_T52
      rw [List.getD_eq_getElem?_getD, Int.toNat_natCast, List.getElem?_eq_getElem hlt]
      rfl
    rw [hrd]
    by_cases hb : ((l[i].f1).size : Int) > 1000
    · exact ⟨true, by rw [if_pos hb], fun h => by cases h⟩
    · obtain ⟨r, hr, hh⟩ := great_l0 l hl d k (i + 1) (by omega) (by omega) (by omega)
      refine ⟨r, ?_, fun h j h1 h2 => ?_⟩
      · rw [if_neg hb, wrap_inc (by omega) (by omega), show ((i : Int) + 1) = ((i + 1 : Nat) : Int) by omega]
        exact hr
      · rcases Nat.lt_or_ge i j with h3 | h3
        · exact hh h j (by omega) h2
        · obtain rfl : i = j := by omega
          omega
theorem great_eq (k : Nat) (hk : 21 < k) (l : List S52) : ∃ r, dioramalaw04_great.f k l = some r ∧ (r = false → l.length ≤ 20 ∧ ∀ s ∈ l, s.f1.size ≤ 1000) := by
  unfold dioramalaw04_great.f
  by_cases h : (l.length : Int) > 20
  · exact ⟨true, by rw [if_pos h], fun h => by cases h⟩
  · obtain ⟨r, hr, hh⟩ := great_l0 l (by omega) l.length k 0 (by omega) (by omega) (by omega)
    refine ⟨r, by rw [if_neg h]; exact hr, fun h2 => ⟨by omega, fun s hs => ?_⟩⟩
    obtain ⟨j, hj, rfl⟩ := List.mem_iff_getElem.1 hs
    exact hh h2 j (by omega) hj
theorem frame_awake0 : dioramalaw04_awake.f 100 = some true := by kernel_rfl
theorem leO_le {α : Type} {f : Nat → Option α} (h : ∀ k, LeO (f k) (f (k + 1))) (a : Nat) : ∀ d, LeO (f a) (f (a + d))
  | 0 => LeO.refl _
  | d + 1 => (leO_le h a d).trans (h (a + d))
theorem frame_awake (k : Nat) (hk : 100 ≤ k) : dioramalaw04_awake.f k = some true := by
  obtain ⟨d, rfl⟩ : ∃ d, k = 100 + d := ⟨k - 100, by omega⟩
  exact leO_le dioramalaw04_awake.mono 100 d _ frame_awake0
theorem FramePuts (m : ByteArray) (v : Int) (l : List S52) : ∃ k, dioramalaw04_FramePuts.f k m v l = some true := by
  refine ⟨100000 + 1, ?_⟩
  obtain ⟨K, hK⟩ : ∃ K, K = 100000 := ⟨_, rfl⟩
  rw [← hK]
  have ht : dioramalaw04_FramePuts.j0 (K + 1) m v l true = some true := by
    simp only [dioramalaw04_FramePuts.j0]
    rw [if_pos trivial, frame_awake _ (by omega)]
    rfl
  unfold dioramalaw04_FramePuts.f
  rw [frame_awake _ (by omega), Option.bind_some, if_pos rfl]
  obtain ⟨r, hr, hs⟩ := great_eq (K + 1) (by omega) l
  rw [hr, Option.bind_some]
  cases r with
  | true => rw [if_pos rfl]; exact ht
  | false =>
    rw [if_neg Bool.false_ne_true]
    obtain ⟨hl, hp⟩ := hs rfl
    cases decide ((m.size : Int) > 100)
    · simp only [dioramalaw04_FramePuts.j0]
      rw [if_neg Bool.false_ne_true, Option.bind_some, if_pos (by simp; omega), List.nil_append, refFramePut_eq K (by omega) m v l hp]
      have : ∃ x, frame_Put.f m v l = some x := ⟨_, rfl⟩
      obtain ⟨x, hx⟩ := this
      rw [hx, Option.bind_some, Option.bind_some, if_pos rfl]
      simp
    · exact ht
end Go.Proofs.Ytdjpelcdijpihaa.Pure
