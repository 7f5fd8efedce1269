/- The pure statement of the law FrameBack is true: sections that are put are got as they were. -/
import Derived.Test.YtdjpelcdijpihaaFrameGreat
import Derived.Test.YtdjpelcdijpihaaPureFrameGets
namespace Go.Proofs.Ytdjpelcdijpihaa.Pure
open Go.RowKit Go.Proofs.Ytdjpelcdijpihaa.Print Go.Proofs.Ytdjpelcdijpihaa.PrintF Go.Proofs.YtdjpelcdijpihaaW.PrintWords Go.Proofs.YtdjpelcdijpihaaW.PrintLast
theorem FrameBack (v : Int) (l : List S52) : ∃ k, dioramalaw04_FrameBack.f k v l = some true := by
  refine ⟨100000 + 1, ?_⟩
  obtain ⟨K, hK⟩ : ∃ K, K = 100000 := ⟨_, rfl⟩
  rw [← hK]
  have ht : dioramalaw04_FrameBack.j0 (K + 1) v l true = some true := by
    simp only [dioramalaw04_FrameBack.j0]
    rw [if_pos trivial, frame_awake _ (by omega)]
    rfl
  unfold dioramalaw04_FrameBack.f
  rw [frame_awake _ (by omega), Option.bind_some, if_pos rfl]
  obtain ⟨r, hr, hs⟩ := great_eq (K + 1) (by omega) l
  rw [hr, Option.bind_some]
  cases r with
  | true => exact ht
  | false =>
    obtain ⟨hl, hp⟩ := hs rfl
    simp only [dioramalaw04_FrameBack.j0]
    rw [if_neg Bool.false_ne_true, Option.bind_some, if_pos (by simp; omega), List.nil_append]
    obtain ⟨b, e, hput, he1, he0⟩ := framePut_dior v l
    rw [show (⟨#[68, 73, 79, 82]⟩ : ByteArray) = dior from rfl, hput, Option.bind_some]
    by_cases he : e = 0
    · obtain ⟨h1, h2, h3, h4, rfl⟩ := he0 he
      have hlen := allB_small l hp
      simp only
      rw [if_pos he, frameGet_eq K dior _ (by rw [mkB_size]; simp [fileB]; omega) (by rw [mkB_size]; simp [fileB]; omega), getM_file (by omega) h4 h3, Option.bind_some]
      have hv : ((v.toNat : Nat) : Int) = v := by omega
      rw [if_pos (show (tellG (.ok (v.toNat, l))).1 = v from hv)]
      show ((dioramaref04_Same.f K l l).bind _) = _
      rw [same_eq _ _ (by omega) (by omega), Option.bind_some, if_pos rfl]
      rfl
    · simp only
      rw [if_neg he, he1 he]
      simp
end Go.Proofs.Ytdjpelcdijpihaa.Pure
