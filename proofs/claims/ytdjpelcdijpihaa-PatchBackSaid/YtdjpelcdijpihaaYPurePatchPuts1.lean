/- A part of the proof of the claim: what it uses of the texts HandRefE, HandRefPatch, PrintF14 (printed by xprint.py), PurePatchPuts0, PurePatchPuts1. -/
import Derived.Test.YtdjpelcdijpihaaYHandRefA
import Derived.Test.YtdjpelcdijpihaaYPrintF4
import Derived.Test.YtdjpelcdijpihaaYHandPut
import Derived.Test.YtdjpelcdijpihaaYPrintF0
import Derived.Test.YtdjpelcdijpihaaYPrintF8
import Derived.Test.YtdjpelcdijpihaaYHandFrame
namespace Go.Proofs.Ytdjpelcdijpihaa.PrintF
open Go.RowKit Go.Proofs.Ytdjpelcdijpihaa.Print Go.Proofs.YtdjpelcdijpihaaW.PrintWords Go.Proofs.YtdjpelcdijpihaaW.PrintLast Go.Lib
set_option linter.unusedVariables false
set_option linter.unusedSimpArgs false
theorem d3 (n : Nat) : ((n : Int) == 0) = (!false && (true && (true && decide (n = 0)))) := by by_cases h : n = 0 <;> simp [h]
end Go.Proofs.Ytdjpelcdijpihaa.PrintF
namespace Go.Proofs.Ytdjpelcdijpihaa.PrintF
open Go.RowKit Go.Proofs.Ytdjpelcdijpihaa.Print Go.Proofs.YtdjpelcdijpihaaW.PrintWords Go.Proofs.YtdjpelcdijpihaaW.PrintLast Go.Lib
set_option linter.unusedVariables false
set_option linter.unusedSimpArgs false
def okOpB (o : S107) : Bool := o.f2.all (fun s => decide (-9223372036854775808 ≤ s.f2 ∧ s.f2 ≤ 9223372036854775807)) && o.f4.f1.all (fun v => decide (-9223372036854775808 ≤ v ∧ v ≤ 9223372036854775807))
end Go.Proofs.Ytdjpelcdijpihaa.PrintF
namespace Go.Proofs.Ytdjpelcdijpihaa.PrintF
open Go.Proofs.Ytdjpelcdijpihaa.Print
open Go.RowKit Go.Proofs.YtdjpelcdijpihaaW.PrintWords Go.Proofs.YtdjpelcdijpihaaW.PrintLast Go.Proofs.YtdjpelcdijpihaaW.PrintMore
attribute [local go_sem] max2_int min2_int max_two min_two
set_option linter.unusedVariables false
set_option linter.unusedSimpArgs false
end Go.Proofs.Ytdjpelcdijpihaa.PrintF
namespace Go.Proofs.Ytdjpelcdijpihaa.Pure
open Go.RowKit Go.Proofs.Ytdjpelcdijpihaa.Print Go.Proofs.Ytdjpelcdijpihaa.PrintF Go.Proofs.YtdjpelcdijpihaaW.PrintWords Go.Proofs.YtdjpelcdijpihaaW.PrintLast
def smallN (x : S105) : Prop := x.f1.length ≤ 100 ∧ x.f2.length ≤ 100 ∧ x.f3.length ≤ 300 ∧ ∀ s ∈ x.f2, s.size ≤ 500
def smallO (o : S107) : Prop := smallN o.f4 ∧ o.f2.length ≤ 50 ∧ o.f3.length ≤ 100 ∧ ∀ s ∈ o.f2, s.f3.size ≤ 500
theorem d0 (n : Nat) : ((n : Int) == 0) = decide (n = 0) := by by_cases h : n = 0 <;> simp [h]
end Go.Proofs.Ytdjpelcdijpihaa.Pure
namespace Go.Proofs.Ytdjpelcdijpihaa.Pure
open Go.RowKit Go.Proofs.Ytdjpelcdijpihaa.Print Go.Proofs.Ytdjpelcdijpihaa.PrintF Go.Proofs.YtdjpelcdijpihaaW.PrintWords Go.Proofs.YtdjpelcdijpihaaW.PrintLast
theorem flat_len {α : Type} (f : α → List UInt8) (B : Nat) : ∀ (l : List α) (_ : ∀ s ∈ l, (f s).length ≤ B) (n : Nat) (_ : l.length ≤ n), (l.flatMap f).length ≤ B * n
 | [], _, n, _ => by simp
 | s :: l, h, n + 1, hn => by
  have h1 := h s (by simp)
  have h2 := flat_len f B l (fun x hx => h x (by simp [hx])) n (by simpa using hn)
  rw [List.flatMap_cons, List.length_append, Nat.mul_add, Nat.mul_one]
  omega
 | s :: l, h, 0, hn => by simp at hn
theorem sgn_len (v : Int) : (sgnB v).length ≤ 10 := numB_len _
theorem nodeB_small {x : S105} (h : smallN x) : (nodeB x).length ≤ 56000 := by
 have h1 := flat_len sgnB 10 x.f1 (fun v _ => sgn_len v) 100 h.1
 have h2 := flat_len txtB 510 x.f2 (fun s hs => by have := (txt_len s).2; have := h.2.2.2 s hs; omega) 100 h.2.1
 have h3 := flat_len numB 10 x.f3 (fun v _ => numB_len v) 300 h.2.2.1
 have a1 := numB_len x.f0
 have a2 := numB_len (x.f1.length : Int)
 have a3 := numB_len (x.f2.length : Int)
 have a4 := numB_len (x.f3.length : Int)
 unfold nodeB
 simp only [List.length_append]
 omega
theorem setB_small {s : S127} (h : s.f3.size ≤ 500) : (setB s).length ≤ 530 := by
 have a1 := numB_len 1
 have a0 := numB_len 0
 have a2 := numB_len s.f1
 have a3 := (txt_len s.f3).2
 have a4 := sgn_len s.f2
 unfold setB
 split
 ·simp only [List.length_append]; omega
 ·simp only [List.length_append]; omega
theorem editB_small (e : S138) : (editB e).length ≤ 20 := by
 have a1 := numB_len e.f0
 have a2 := numB_len e.f1
 unfold editB
 rw [List.length_append]
 omega
theorem opB_small {o : S107} (h : smallO o) : (opB o).length ≤ 60000 := by
 have h1 := nodeB_small h.1
 have h2 := flat_len setB 530 o.f2 (fun s hs => setB_small (h.2.2.2 s hs)) 50 h.2.1
 have h3 := flat_len editB 20 o.f3 (fun e _ => editB_small e) 100 h.2.2.1
 have a1 := numB_len o.f0
 have a2 := numB_len o.f1
 have a3 := numB_len (o.f2.length : Int)
 have a4 := numB_len (o.f3.length : Int)
 unfold opB
 rw [List.length_append]
 split
 ·omega
 ·rw [List.length_append]
  split
  ·unfold editsB
   simp only [List.length_append]
   omega
  ·simp only [List.length_nil]; omega
theorem opsB_small {l : List S107} (hl : l.length ≤ 60) (h : ∀ o ∈ l, smallO o) : (opsB l).length ≤ 3700000 := by
 have h1 := flat_len opB 60000 l (fun o ho => opB_small (h o ho)) 60 hl
 have a1 := numB_len (l.length : Int)
 unfold opsB
 rw [List.length_append]
 omega
end Go.Proofs.Ytdjpelcdijpihaa.Pure
