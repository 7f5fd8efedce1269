/- A part of the proof of the claim: what it uses of the texts HandRefE, PrintF14 (printed by xprint.py), PurePatchPuts0, PurePatchPuts. -/
import Derived.Test.YtdjpelcdijpihaaZHandRefA
import Derived.Test.YtdjpelcdijpihaaZPrintF0
import Derived.Test.YtdjpelcdijpihaaZPrintF8
import Derived.Test.YtdjpelcdijpihaaZHandPut
import Derived.Test.YtdjpelcdijpihaaZPrintF4
import Derived.Test.YtdjpelcdijpihaaZHandFrame
namespace Go.Proofs.Ytdjpelcdijpihaa.PrintF
open Go.RowKit Go.Proofs.Ytdjpelcdijpihaa.Print Go.Proofs.YtdjpelcdijpihaaW.PrintWords Go.Proofs.YtdjpelcdijpihaaW.PrintLast Go.Lib
set_option linter.unusedVariables false
set_option linter.unusedSimpArgs false
theorem d3 (n : Nat) : ((n : Int) == 0) = (!false && (true && (true && decide (n = 0)))) := by by_cases h : n = 0 <;> simp [h]
theorem d4 (n : Nat) : ((n : Int) == 0) = (true && (true && (true && decide (n = 0)))) := by by_cases h : n = 0 <;> simp [h]
end Go.Proofs.Ytdjpelcdijpihaa.PrintF
namespace Go.Proofs.Ytdjpelcdijpihaa.PrintF
open Go.Proofs.Ytdjpelcdijpihaa.Print
open Go.RowKit Go.Proofs.YtdjpelcdijpihaaW.PrintWords Go.Proofs.YtdjpelcdijpihaaW.PrintLast Go.Proofs.YtdjpelcdijpihaaW.PrintMore
attribute [local go_sem] max2_int min2_int max_two min_two
set_option linter.unusedVariables false
set_option linter.unusedSimpArgs false
end Go.Proofs.Ytdjpelcdijpihaa.PrintF
namespace Go.Proofs.Ytdjpelcdijpihaa.Pure
open Go.RowKit Go.Proofs.Ytdjpelcdijpihaa.Print Go.Proofs.Ytdjpelcdijpihaa.PrintF Go.Proofs.YtdjpelcdijpihaaW.PrintWords Go.Proofs.YtdjpelcdijpihaaW.PrintLast
theorem d0 (n : Nat) : ((n : Int) == 0) = decide (n = 0) := by by_cases h : n = 0 <;> simp [h]
end Go.Proofs.Ytdjpelcdijpihaa.Pure
namespace Go.Proofs.Ytdjpelcdijpihaa.Pure
open Go.RowKit Go.Proofs.Ytdjpelcdijpihaa.Print Go.Proofs.Ytdjpelcdijpihaa.PrintF Go.Proofs.YtdjpelcdijpihaaW.PrintWords Go.Proofs.YtdjpelcdijpihaaW.PrintLast
theorem patch_awake0 : dioramalaw24_awake.f 100 = some true := by kernel_rfl
theorem leO_le {α : Type} {f : Nat → Option α} (h : ∀ k, LeO (f k) (f (k + 1))) (a : Nat) : ∀ d, LeO (f a) (f (a + d))
 | 0 => LeO.refl _
 | d + 1 => (leO_le h a d).trans (h (a + d))
theorem patch_awake (k : Nat) (hk : 100 ≤ k) : dioramalaw24_awake.f k = some true := by
 obtain ⟨d, rfl⟩ : ∃ d, k = 100 + d := ⟨k - 100, by omega⟩
 exact leO_le dioramalaw24_awake.mono 100 d _ patch_awake0
end Go.Proofs.Ytdjpelcdijpihaa.Pure
