/- A part of the proof of the claim: what it uses of the text CrcBytes. -/
import Derived.Test.YtdjpelcdijpihaaXCrcBase
namespace Go.Proofs.Ytdjpelcdijpihaa.Pure
open Go.RowKit Go.Proofs.Ytdjpelcdijpihaa.Print Go.Proofs.YtdjpelcdijpihaaW.PrintWords Go.Proofs.YtdjpelcdijpihaaW.PrintLast
def le4 (n : Int) : List Int := [n % 256, n / 256 % 256, n / 65536 % 256, n / 16777216 % 256]
theorem refPut_eq (k : Nat) (n : Int) (h : 0 ≤ n ∧ n ≤ 4294967295) (hk : 5 ≤ k) : dioramaref03_Put.f k n = some (strOfNums (le4 n)) := by
 obtain ⟨k, rfl⟩ : ∃ m, k = m + 5 := ⟨k - 5, by omega⟩
 obtain ⟨m, rfl⟩ := Int.eq_ofNat_of_zero_le h.1
 have hm : m ≤ 4294967295 := by omega
 have d : ∀ (x : Nat), x ≤ 4294967295 → Int.tdiv (x : Int) 256 % 4294967296 = ((x / 256 : Nat) : Int) := by
  intro x hx
  rw [show Int.tdiv (x : Int) 256 = ((x / 256 : Nat) : Int) from rfl]
  omega
 have t : ∀ (x : Nat), Int.tmod (x : Int) 256 % 256 = ((x % 256 : Nat) : Int) := by
  intro x
  rw [show Int.tmod (x : Int) 256 = ((x % 256 : Nat) : Int) from rfl]
  omega
 unfold dioramaref03_Put.f
 simp only [dioramaref03_Put.l0]
 rw [if_pos (by decide), if_pos (by simp), d _ hm, t, show wrap64 (0 + 1) = 1 by unfold wrap64; omega, if_pos (by decide), if_pos (by simp), d _ (by omega), t, show wrap64 (1 + 1) = 2 by unfold wrap64; omega, if_pos (by decide), if_pos (by simp),
  d _ (by omega), t, show wrap64 (2 + 1) = 3 by unfold wrap64; omega, if_pos (by decide), if_pos (by simp), d _ (by omega), t, show wrap64 (3 + 1) = 4 by unfold wrap64; omega, if_neg (by decide)]
 congr 2
 simp only [le4, List.nil_append, List.cons_append, List.cons.injEq, and_true]
 omega
end Go.Proofs.Ytdjpelcdijpihaa.Pure
