/- An argument that is a slice of sections: what it reads, as a list of sections. -/
import Derived.Deep.SlicePairs
import Derived.ChangeArms
import Derived.Test.YtdjpelcdijpihaaPrintF0
namespace Go.Proofs.Ytdjpelcdijpihaa.PrintF
open Go.RowKit Go.ChangeShapes Go.WideShapes Go.Deep Go.Proofs.YtdjpelcdijpihaaW.PrintWords Go.Proofs.YtdjpelcdijpihaaW.PrintLast
set_option maxRecDepth 100000
instance : Inhabited S52 := ⟨z52⟩
theorem secs_open {H : Type} {enc : TypeId × Value → H} {w : World} {base : Nat} {spare : Nat → Bool} {held : Bool} {r : Reach} {b0 : Nat} {v : Value} {d : DataW H} {p : List MemPlace}
    (hv : Value.okWide Try.prog w r b0 36 v) (h : DataW.Trod enc Try.prog w base spare held 36 v d p) :
    ∃ (A : Option Addr) (c : Nat) (l : List S52), v = .slice A l.length c ∧ l.length ≤ c ∧ Kd.C k52 w A l.length l := by
  obtain ⟨A, n, c, rfl⟩ := okWide_slice Try.underlying36 hv
  obtain ⟨fuel, hf⟩ := h
  rcases open_slice_pairs Try.underlying36 Try.underlying52 (by kernel_rfl) rfl rfl (by kernel_rfl) (by kernel_rfl) hf with ⟨hcs, _⟩ | ⟨a, len, cap, m, k, V0, V1, D0, D1, P0, P1, hcs, _, hl, hm, hmm, _, hx⟩
  · simp [Value.cells] at hcs
    obtain ⟨rfl, rfl, rfl⟩ := hcs
    exact ⟨none, 0, [], rfl, Nat.le_refl _, rfl, Nat.zero_le _, fun h => absurd h (by simp)⟩
  · simp [Value.cells] at hcs
    obtain ⟨rfl, rfl, rfl⟩ := hcs
    have hnm : n ≤ m := by rw [hmm]; split <;> omega
    have each : ∀ i, i < n → ∃ s : S52, w.cell? (a.add (i * 2)) = some (.int .i64 s.f0) ∧ w.cell? (a.add (i * 2 + 1)) = some (.string s.f1) := by
      intro i hi
      obtain ⟨h0, h1, t0, t1⟩ := hx i (by omega)
      obtain ⟨x, hx0, _⟩ := DataW.trod_int Try.underlying3 t0
      obtain ⟨y, hy0, _⟩ := DataW.trod_string Try.underlying9 t1
      simp only [List.cons.injEq, and_true] at hx0 hy0
      exact ⟨⟨x, y⟩, by rw [h0, hx0], by rw [h1, hy0]⟩
    obtain ⟨q, hq⟩ := choose_lt each
    refine ⟨some a, c, (List.range n).map q, by simp, by simpa using hl, by simp, ?_, fun _ => ⟨a, rfl, fun j s hs => ?_⟩⟩
    · have : maxLen ≤ 9223372036854775807 := by decide
      simp only [List.length_map, List.length_range]
      omega
    · have hj : j < n := by
        have := (List.getElem?_eq_some_iff.1 hs).1
        simpa using this
      rw [List.getElem?_map, List.getElem?_range hj] at hs
      obtain rfl := Option.some.inj hs
      refine ⟨_, rfl, k52_mk w (q j), fun i u hu => ?_⟩
      match i, hu with
      | 0, hu => obtain rfl := Option.some.inj hu; exact (hq j hj).1
      | 1, hu => obtain rfl := Option.some.inj hu; exact (hq j hj).2
      | i + 2, hu => simp at hu
end Go.Proofs.Ytdjpelcdijpihaa.PrintF
