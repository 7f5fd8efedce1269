/- A part of the proof of the claim: what it uses of the texts PrintF5 (printed by xprint.py), HandRefA. -/
import Derived.Test.YtdjpelcdijpihaaYPrintF0
import Derived.Test.YtdjpelcdijpihaaYPrintF4
import Derived.Test.YtdjpelcdijpihaaYPrintC1
import Derived.Test.YtdjpelcdijpihaaYHandOp
import Derived.Test.YtdjpelcdijpihaaYHandFrame
import Derived.Laws.Bits64
namespace Go.Proofs.Ytdjpelcdijpihaa.PrintF
open Go.Proofs.Ytdjpelcdijpihaa.Print
open Go.RowKit Go.Proofs.YtdjpelcdijpihaaW.PrintWords Go.Proofs.YtdjpelcdijpihaaW.PrintLast Go.Proofs.YtdjpelcdijpihaaW.PrintMore
attribute [local go_sem] max2_int min2_int max_two min_two
set_option linter.unusedVariables false
set_option linter.unusedSimpArgs false
end Go.Proofs.Ytdjpelcdijpihaa.PrintF
namespace Go.Proofs.Ytdjpelcdijpihaa.PrintF
open Go.RowKit Go.Proofs.Ytdjpelcdijpihaa.Print Go.Proofs.YtdjpelcdijpihaaW.PrintWords Go.Proofs.YtdjpelcdijpihaaW.PrintLast Go.Lib
set_option linter.unusedVariables false
set_option linter.unusedSimpArgs false
theorem zig_nat (n : Int) (h : -9223372036854775808 ≤ n ∧ n ≤ 9223372036854775807) : zigN n = if 0 ≤ n then 2 * n else 2 * (-(n + 1)) + 1 := by
 unfold zigN
 by_cases h0 : 0 ≤ n
 ·obtain ⟨m, rfl⟩ : ∃ m : Nat, n = m := ⟨n.toNat, by omega⟩
  rw [if_pos h0, u64_id (n := (m : Int)) (by omega), u64_id (n := (m : Int) * 2) (by omega), show (m : Int) / 9223372036854775808 = 0 by omega, show IntKind.u64.wrap 0 = ((0 : Nat) : Int) by rw [IntKind.wrap_u64]; rfl,
   show (m : Int) * 2 = ((m * 2 : Nat) : Int) by omega, bits_xor_u64_nat _ _ (by omega) (by omega), Nat.xor_zero]
  omega
 ·obtain ⟨m, hm⟩ : ∃ m : Nat, n = -(m : Int) - 1 := ⟨(-(n + 1)).toNat, by omega⟩
  have e1 : IntKind.u64.wrap (IntKind.u64.wrap n * 2) = ((18446744073709551615 - (2 * m + 1) : Nat) : Int) := by rw [IntKind.wrap_u64, IntKind.wrap_u64]; omega
  have e2 : IntKind.u64.wrap (n / 9223372036854775808) = ((18446744073709551615 : Nat) : Int) := by rw [IntKind.wrap_u64]; omega
  have e3 : (18446744073709551615 - (2 * m + 1)) ^^^ 18446744073709551615 = 2 * m + 1 := by
   have h1 := BitVec.toNat_not (x := BitVec.ofNat 64 (18446744073709551615 - (2 * m + 1)))
   have h2 : (BitVec.ofNat 64 (18446744073709551615 - (2 * m + 1)) ^^^ BitVec.allOnes 64) = ~~~ (BitVec.ofNat 64 (18446744073709551615 - (2 * m + 1))) := BitVec.xor_allOnes
   have h3 := congrArg BitVec.toNat h2
   rw [h1, BitVec.toNat_xor, BitVec.toNat_ofNat, BitVec.toNat_allOnes, Nat.mod_eq_of_lt (by omega)] at h3
   rw [show (18446744073709551615 : Nat) = 2 ^ 64 - 1 from rfl]
   rw [show (18446744073709551615 : Nat) = 2 ^ 64 - 1 from rfl] at h3
   rw [h3]
   omega
  rw [if_neg h0, e1, e2, bits_xor_u64_nat _ _ (by omega) (by omega), e3, hm]
  omega
end Go.Proofs.Ytdjpelcdijpihaa.PrintF
