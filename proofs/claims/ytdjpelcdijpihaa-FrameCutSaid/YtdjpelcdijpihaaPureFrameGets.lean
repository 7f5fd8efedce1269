/- The pure statement of the law FrameGets is true: within the sizes that the row gives, the program and the reference read any bytes alike. -/
import Derived.Test.YtdjpelcdijpihaaPrintF7
import Derived.Test.YtdjpelcdijpihaaFrameRef
namespace Go.Proofs.Ytdjpelcdijpihaa.Pure
open Go.RowKit Go.Proofs.Ytdjpelcdijpihaa.Print Go.Proofs.Ytdjpelcdijpihaa.PrintF Go.Proofs.YtdjpelcdijpihaaW.PrintWords Go.Proofs.YtdjpelcdijpihaaW.PrintLast
theorem frame_awake0 : dioramalaw04_awake.f 100 = some true := by kernel_rfl
theorem leO_le {α : Type} {f : Nat → Option α} (h : ∀ k, LeO (f k) (f (k + 1))) (a : Nat) : ∀ d, LeO (f a) (f (a + d))
  | 0 => LeO.refl _
  | d + 1 => (leO_le h a d).trans (h (a + d))
theorem frame_awake (k : Nat) (hk : 100 ≤ k) : dioramalaw04_awake.f k = some true := by
  obtain ⟨d, rfl⟩ : ∃ d, k = 100 + d := ⟨k - 100, by omega⟩
  exact leO_le dioramalaw04_awake.mono 100 d _ frame_awake0
theorem FrameGets : dioramalaw04_FrameGets.Pure := by
  intro m b hm hb
  refine ⟨(6 * b.size + 200) + 1, ?_⟩
  have ht : dioramalaw04_FrameGets.j0 ((6 * b.size + 200) + 1) m b true = some true := by
    simp only [dioramalaw04_FrameGets.j0]
    rw [if_pos trivial, frame_awake _ (by omega)]
    rfl
  have hf : dioramalaw04_FrameGets.j0 ((6 * b.size + 200) + 1) m b false = some true := by
    simp only [dioramalaw04_FrameGets.j0]
    rw [if_neg Bool.false_ne_true, frameGet_eq _ m b (by omega) (by omega), Option.bind_some, refFrameGet_eq _ m b (by omega) (by omega), Option.bind_some, if_pos rfl]
    have hl : (tellG (getM m b)).2.1.length ≤ 8 := by
      cases h : getM m b with
      | error e => simp [tellG]
      | ok x => exact getM_len h
    rw [same_eq _ _ (by omega) (by omega), Option.bind_some, if_pos rfl]
    simp
  unfold dioramalaw04_FrameGets.f
  rw [frame_awake _ (by omega), Option.bind_some, if_pos rfl, ht]
  split
  · rfl
  · cases decide ((m.size : Int) > 100)
    · exact hf
    · exact ht
end Go.Proofs.Ytdjpelcdijpihaa.Pure
