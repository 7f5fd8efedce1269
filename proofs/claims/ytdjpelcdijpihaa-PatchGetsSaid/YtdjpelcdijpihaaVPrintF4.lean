/- A part of the proof of the claim: what it uses of the text PrintF4 (printed by xprint.py). -/
import Derived.Test.YtdjpelcdijpihaaVPrintF0
import Derived.Test.YtdjpelcdijpihaaVPrintF3
namespace Go.Proofs.Ytdjpelcdijpihaa.PrintF
open Go.Proofs.Ytdjpelcdijpihaa.Print
open Go.RowKit Go.Proofs.YtdjpelcdijpihaaW.PrintWords Go.Proofs.YtdjpelcdijpihaaW.PrintLast Go.Proofs.YtdjpelcdijpihaaW.PrintMore
attribute [local go_sem] max2_int min2_int max_two min_two
set_option linter.unusedVariables false
set_option linter.unusedSimpArgs false
def patch_belongs.f (a0_0 : Int) (a0_1 : Int) (l0_2 : List (S127)) (l0_3 : List (S138)) (a0_4 : Int) (l0_5 : List Int) (l0_6 : List ByteArray) (l0_7 : List Int) : Option (Bool) := if a0_0 = 1 then (if (l0_2.length : Int) = 0 then (if (l0_3.length : Int) = 0 then ((patch_empty.f a0_4 l0_5 l0_6 l0_7).bind fun t216 => (some t216)) else (some false)) else (some false)) else (if a0_0 = 2 then ((patch_empty.f a0_4 l0_5 l0_6 l0_7).bind fun t217 => (some t217)) else (if a0_0 = 3 then (if a0_1 = 0 then (if (l0_2.length : Int) = 0 then (some ((l0_3.length : Int) == 0)) else (some false)) else (some false)) else (some false)))
end Go.Proofs.Ytdjpelcdijpihaa.PrintF
