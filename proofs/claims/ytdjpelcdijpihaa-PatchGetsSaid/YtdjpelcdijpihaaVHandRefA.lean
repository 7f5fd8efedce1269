/- A part of the proof of the claim: what it uses of the texts HandWriter, HandNode, HandEdit, HandOp, PrintF5 (printed by xprint.py), HandRefA. -/
import Derived.Test.YtdjpelcdijpihaaVPrintF4
import Derived.Test.YtdjpelcdijpihaaVHandFrame
import Derived.Deep.RegionHeld3
import Derived.IntWalk
import Derived.OpenShut
import Derived.Deep.LoopGhost
import Derived.Test.YtdjpelcdijpihaaVPrintF0
import Derived.Test.YtdjpelcdijpihaaVPrintC1
import Derived.Laws.Bits64
namespace Go.Proofs.Ytdjpelcdijpihaa.PrintF
open Go.RowKit Go.Proofs.Ytdjpelcdijpihaa.Print Go.Proofs.YtdjpelcdijpihaaW.PrintWords Go.Proofs.YtdjpelcdijpihaaW.PrintLast Go.Lib
set_option linter.unusedVariables false
set_option linter.unusedSimpArgs false
variable {B b : Nat} {bs : List UInt8} {wr : Bool} {w w' : World}
def numB (n : Int) : List UInt8 := u8s (vb (n % 18446744073709551616).toNat)
def noB (n : Int) : Bool := decide (n < 0 ∨ 16777216 < n)
def zigN (n : Int) : Int := Go.bits .xor .u64 (IntKind.u64.wrap ((IntKind.u64.wrap n) * 2)) (IntKind.u64.wrap (n / 9223372036854775808))
def sgnB (n : Int) : List UInt8 := numB (zigN n)
theorem u64_id {n : Int} (h : 0 ≤ n ∧ n < 18446744073709551616) : IntKind.u64.wrap n = n := by rw [IntKind.wrap_u64]; omega
def txtB (s : ByteArray) : List UInt8 := numB s.size ++ s.data.toList
end Go.Proofs.Ytdjpelcdijpihaa.PrintF
namespace Go.Proofs.Ytdjpelcdijpihaa.PrintF
open Go.RowKit Go.Proofs.Ytdjpelcdijpihaa.Print Go.Proofs.YtdjpelcdijpihaaW.PrintWords Go.Proofs.YtdjpelcdijpihaaW.PrintLast Go.Lib
set_option linter.unusedVariables false
set_option linter.unusedSimpArgs false
theorem wrap_succ {n l : Nat} (h : n < l) (hl : l ≤ 9223372036854775807) : wrap64 ((n : Int) + 1) = ((n + 1 : Nat) : Int) := by unfold wrap64; omega
theorem int_at {k : IntKind} {w : World} {A : Option Addr} {n : Nat} {xs : List Int} (h : (Kd.int k).C w A n xs) {j : Nat} (hj : j < xs.length) : ∃ ad, A = some ad ∧ w.cell? (ad.add j) = some (.int k xs[j]) := by
 obtain ⟨ad, e, hc⟩ := h.2.2 (by have := h.1; omega)
 obtain ⟨c, _, hk, hu⟩ := hc j _ (List.getElem?_eq_getElem hj)
 have hk' : c = [.int k xs[j]] := hk
 subst hk'
 exact ⟨ad, e, by have := hu 0 _ rfl; simpa [show (Kd.int k).sz = 1 from rfl] using this⟩
theorem str_at {w : World} {A : Option Addr} {n : Nat} {xs : List ByteArray} (h : Kd.string.C w A n xs) {j : Nat} (hj : j < xs.length) : ∃ ad, A = some ad ∧ w.cell? (ad.add j) = some (.string xs[j]) := by
 obtain ⟨ad, e, hc⟩ := h.2.2 (by have := h.1; omega)
 obtain ⟨c, _, hk, hu⟩ := hc j _ (List.getElem?_eq_getElem hj)
 have hk' : c = [.string xs[j]] := hk
 subst hk'
 exact ⟨ad, e, by have := hu 0 _ rfl; simpa [show Kd.string.sz = 1 from rfl] using this⟩
end Go.Proofs.Ytdjpelcdijpihaa.PrintF
namespace Go.Proofs.Ytdjpelcdijpihaa.PrintF
open Go.RowKit Go.Proofs.Ytdjpelcdijpihaa.Print Go.Proofs.YtdjpelcdijpihaaW.PrintWords Go.Proofs.YtdjpelcdijpihaaW.PrintLast Go.Lib
set_option linter.unusedVariables false
set_option linter.unusedSimpArgs false
theorem rd127 {l : List S127} {n : Nat} (h : n < l.length) : rd_T127 l (n : Int) = l[n] := by
 unfold rd_T127
 rw [List.getD_eq_getElem?_getD, Int.toNat_natCast, List.getElem?_eq_getElem h]
 rfl
theorem rd138 {l : List S138} {n : Nat} (h : n < l.length) : rd_T138 l (n : Int) = l[n] := by
 unfold rd_T138
 rw [List.getD_eq_getElem?_getD, Int.toNat_natCast, List.getElem?_eq_getElem h]
 rfl
def setB (s : S127) : List UInt8 := if s.f0 = true then numB 1 ++ (numB s.f1 ++ txtB s.f3) else numB 0 ++ (numB s.f1 ++ sgnB s.f2)
def setNo (s : S127) : Bool := if s.f0 = true then (s.f2 != 0) || (noB s.f1 || noB s.f3.size) else (!s.f3.toList.isEmpty) || noB s.f1
def editB (e : S138) : List UInt8 := numB e.f0 ++ numB e.f1
def editNo (e : S138) : Bool := decide (e.f0 < 1) || (decide (3 < e.f0) || (noB e.f0 || noB e.f1))
end Go.Proofs.Ytdjpelcdijpihaa.PrintF
namespace Go.Proofs.Ytdjpelcdijpihaa.PrintF
open Go.RowKit Go.Proofs.Ytdjpelcdijpihaa.Print Go.Proofs.YtdjpelcdijpihaaW.PrintWords Go.Proofs.YtdjpelcdijpihaaW.PrintLast Go.Lib
set_option linter.unusedVariables false
set_option linter.unusedSimpArgs false
def bel (o : S107) : Bool := (patch_belongs.f o.f0 o.f1 o.f2 o.f3 o.f4.f0 o.f4.f1 o.f4.f2 o.f4.f3).getD false
end Go.Proofs.Ytdjpelcdijpihaa.PrintF
namespace Go.Proofs.Ytdjpelcdijpihaa.PrintF
open Go.Proofs.Ytdjpelcdijpihaa.Print
open Go.RowKit Go.Proofs.YtdjpelcdijpihaaW.PrintWords Go.Proofs.YtdjpelcdijpihaaW.PrintLast Go.Proofs.YtdjpelcdijpihaaW.PrintMore
attribute [local go_sem] max2_int min2_int max_two min_two
set_option linter.unusedVariables false
set_option linter.unusedSimpArgs false
end Go.Proofs.Ytdjpelcdijpihaa.PrintF
namespace Go.Proofs.Ytdjpelcdijpihaa.PrintF
open Go.RowKit Go.Proofs.Ytdjpelcdijpihaa.Print Go.Proofs.YtdjpelcdijpihaaW.PrintWords Go.Proofs.YtdjpelcdijpihaaW.PrintLast Go.Lib
set_option linter.unusedVariables false
set_option linter.unusedSimpArgs false
theorem zig_nat (n : Int) (h : -9223372036854775808 ≤ n ∧ n ≤ 9223372036854775807) : zigN n = if 0 ≤ n then 2 * n else 2 * (-(n + 1)) + 1 := by
 unfold zigN
 by_cases h0 : 0 ≤ n
 ·obtain ⟨m, rfl⟩ : ∃ m : Nat, n = m := ⟨n.toNat, by omega⟩
  rw [if_pos h0, u64_id (n := (m : Int)) (by omega), u64_id (n := (m : Int) * 2) (by omega), show (m : Int) / 9223372036854775808 = 0 by omega, show IntKind.u64.wrap 0 = ((0 : Nat) : Int) by rw [IntKind.wrap_u64]; rfl,
   show (m : Int) * 2 = ((m * 2 : Nat) : Int) by omega, bits_xor_u64_nat _ _ (by omega) (by omega), Nat.xor_zero]
  omega
 ·obtain ⟨m, hm⟩ : ∃ m : Nat, n = -(m : Int) - 1 := ⟨(-(n + 1)).toNat, by omega⟩
  have e1 : IntKind.u64.wrap (IntKind.u64.wrap n * 2) = ((18446744073709551615 - (2 * m + 1) : Nat) : Int) := by rw [IntKind.wrap_u64, IntKind.wrap_u64]; omega
  have e2 : IntKind.u64.wrap (n / 9223372036854775808) = ((18446744073709551615 : Nat) : Int) := by rw [IntKind.wrap_u64]; omega
  have e3 : (18446744073709551615 - (2 * m + 1)) ^^^ 18446744073709551615 = 2 * m + 1 := by
   have h1 := BitVec.toNat_not (x := BitVec.ofNat 64 (18446744073709551615 - (2 * m + 1)))
   have h2 : (BitVec.ofNat 64 (18446744073709551615 - (2 * m + 1)) ^^^ BitVec.allOnes 64) = ~~~ (BitVec.ofNat 64 (18446744073709551615 - (2 * m + 1))) := BitVec.xor_allOnes
   have h3 := congrArg BitVec.toNat h2
   rw [h1, BitVec.toNat_xor, BitVec.toNat_ofNat, BitVec.toNat_allOnes, Nat.mod_eq_of_lt (by omega)] at h3
   rw [show (18446744073709551615 : Nat) = 2 ^ 64 - 1 from rfl]
   rw [show (18446744073709551615 : Nat) = 2 ^ 64 - 1 from rfl] at h3
   rw [h3]
   omega
  rw [if_neg h0, e1, e2, bits_xor_u64_nat _ _ (by omega) (by omega), e3, hm]
  omega
end Go.Proofs.Ytdjpelcdijpihaa.PrintF
