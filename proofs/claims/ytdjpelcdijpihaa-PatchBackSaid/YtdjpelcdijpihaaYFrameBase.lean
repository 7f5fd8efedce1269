/- A part of the proof of the claim: what it uses of the text FrameBase. -/
import Derived.Test.YtdjpelcdijpihaaYFrameGet
namespace Go.Proofs.Ytdjpelcdijpihaa.PrintF
open Go.RowKit Go.Proofs.Ytdjpelcdijpihaa.Print Go.Proofs.YtdjpelcdijpihaaW.PrintWords Go.Proofs.YtdjpelcdijpihaaW.PrintLast
theorem le4N_lt (n : Nat) : ∀ c ∈ le4N n, c < 256 := by
 intro c hc
 simp only [le4N, List.mem_cons, List.not_mem_nil, or_false] at hc
 omega
end Go.Proofs.Ytdjpelcdijpihaa.PrintF
