/- A part of the proof of the claim: what it uses of the text PatchRow. -/
import Derived.Deep.Slices
import Derived.ChangeArms
import Derived.OpenShut
import Derived.Test.YtdjpelcdijpihaaYPrintF0
namespace Go.Proofs.Ytdjpelcdijpihaa.PrintF
open Go.RowKit Go.ChangeShapes Go.WideShapes Go.Deep Go.Proofs.YtdjpelcdijpihaaW.PrintWords Go.Proofs.YtdjpelcdijpihaaW.PrintLast
set_option maxRecDepth 100000
section
variable {H : Type} {enc : TypeId × Value → H} {w : World} {base : Nat} {spare : Nat → Bool} {held : Bool}
def Opens {α : Type} (enc : TypeId × Value → H) (w : World) (base : Nat) (spare : Nat → Bool) (held : Bool) (d : Kd α) (t : TypeId) (R : α → Prop) : Prop :=
 ∀ fuel cs x, DataW.trod enc Try.prog w base spare held fuel t cs = some x → ∃ v, d.K w v cs ∧ R v
theorem opens_int {t : TypeId} {k : IntKind} (ht : Try.prog.underlying t = some (.int k)) : Opens enc w base spare held (Kd.int k) t (fun n => (Lit.int k n).wf = true) := by
 intro fuel cs x h
 obtain ⟨n, rfl, _, hw⟩ := DataW.trod_int ht h
 exact ⟨n, rfl, hw⟩
theorem opens_string {t : TypeId} (ht : Try.prog.underlying t = some .string) : Opens enc w base spare held Kd.string t (fun _ => True) := by
 intro fuel cs x h
 obtain ⟨s, rfl, _, _⟩ := DataW.trod_string ht h
 exact ⟨s, rfl, trivial⟩
theorem opens_slice {α : Type} {d : Kd α} {t e : TypeId} {R : α → Prop} (ht : Try.prog.underlying t = some (.slice e)) (hsz : Try.prog.cellsOf e = d.sz) (ho : Opens enc w base spare held d e R) :
  Opens enc w base spare held (Kd.slice e d) t (fun l => ∀ v ∈ l, R v) := by
 intro fuel cs x h
 rcases open_slice ht h with ⟨rfl, _⟩ | ⟨a, len, cap, m, n, D, Pl, rfl, _, hl, hm, hmm, _, hi⟩
 ·exact ⟨[], ⟨none, 0, rfl, Nat.le_refl _, rfl, Nat.zero_le _, fun h0 => absurd h0 (by simp)⟩, fun v hv => by simp at hv⟩
 ·have hnm : len ≤ m := by rw [hmm]; split <;> omega
  have each : ∀ i, i < len → ∃ v : α, (∃ c, d.K w v c ∧ ∀ j u, c[j]? = some u → w.cell? (a.add (i * d.sz + j)) = some u) ∧ R v := by
   intro i hi2
   obtain ⟨cs', hc, ht'⟩ := hi i (by omega)
   rw [hsz] at hc
   obtain ⟨v, hv, hr⟩ := ho _ _ _ ht'
   obtain ⟨_, hcl, hat⟩ := World.cells?_some hc
   refine ⟨v, ⟨cs', hv, fun j u hj => ?_⟩, hr⟩
   have hjl : j < cs'.length := (List.getElem?_eq_some_iff.1 hj).1
   rw [← Go.Deep.add_add, hat j (by omega)]
   exact hj
  have pick : ∀ k, k ≤ len → ∃ l : List α, l.length = k ∧ ∀ i (h : i < l.length), (∃ c, d.K w l[i] c ∧ ∀ j u, c[j]? = some u → w.cell? (a.add (i * d.sz + j)) = some u) ∧ R l[i] := by
   intro k
   induction k with
   | zero => exact fun _ => ⟨[], rfl, fun i h => by simp at h⟩
   | succ k ih =>
    intro hk
    obtain ⟨l, hl2, hp⟩ := ih (by omega)
    obtain ⟨v, hv⟩ := each k (by omega)
    refine ⟨l ++ [v], by simp [hl2], fun i h => ?_⟩
    by_cases hik : i < l.length
    ·rw [List.getElem_append_left hik]
     exact hp i hik
    ·have : i = l.length := by simp at h; omega
     subst this
     rw [List.getElem_append_right (Nat.le_refl _)]
     simpa [hl2] using hv
  obtain ⟨l, rfl, hp⟩ := pick len (Nat.le_refl _)
  refine ⟨l, ⟨some a, cap, rfl, hl, rfl, ?_, fun _ => ⟨a, rfl, fun j p hj => ?_⟩⟩, fun v hv => ?_⟩
  ·have : maxLen ≤ 9223372036854775807 := by decide
   omega
  ·obtain ⟨hj1, rfl⟩ := List.getElem?_eq_some_iff.1 hj
   obtain ⟨⟨c, hk, hu⟩, _⟩ := hp j hj1
   exact ⟨c, d.K_len hk, hk, hu⟩
  ·obtain ⟨j, hj1, rfl⟩ := List.mem_iff_getElem.1 hv
   exact (hp j hj1).2
theorem cut_one {cs : List Value} {a : Nat} {p : List Value} (h : (cs.drop a).take 1 = p) : cs.drop a = p ++ cs.drop (a + 1) := by
 rw [← h, ← List.drop_drop, List.take_append_drop]
theorem opens127 : Opens enc w base spare held k127 127 (fun s => (Lit.int .i64 s.f2).wf = true) := by
 intro fuel cs x h
 obtain ⟨xs, n, _, _, hl, hxl, hf⟩ := DataW.trod_struct Try.underlying127 h
 have get : ∀ i (hi : i < xs.length), xs[i]? = some xs[i] := fun i hi => List.getElem?_eq_getElem hi
 have hxl' : xs.length = 4 := hxl
 have hl' : cs.length = 4 := by rw [hl]; kernel_rfl
 obtain ⟨b, hb, _⟩ := DataW.trod_bool Try.underlying4 ((hf 0 _ rfl).trans (get 0 (by omega)))
 obtain ⟨f, hff, _, _⟩ := DataW.trod_int Try.underlying3 ((hf 1 _ rfl).trans (get 1 (by omega)))
 obtain ⟨m, hm, _, hw⟩ := DataW.trod_int Try.underlying2 ((hf 2 _ rfl).trans (get 2 (by omega)))
 obtain ⟨s, hs, _, _⟩ := DataW.trod_string Try.underlying9 ((hf 3 _ rfl).trans (get 3 (by omega)))
 have hcs : cs = [.bool b, .int .i64 f, .int .i64 m, .string s] := by
  have e0 := cut_one (a := 0) hb
  have e1 := cut_one (a := 1) hff
  have e2 := cut_one (a := 2) hm
  have e3 := cut_one (a := 3) hs
  have e4 : cs.drop 4 = [] := List.drop_of_length_le (by omega)
  rw [List.drop_zero, show 0 + 1 = 1 from rfl, e1, show 1 + 1 = 2 from rfl, e2, show 2 + 1 = 3 from rfl, e3, show 3 + 1 = 4 from rfl, e4] at e0
  exact e0
 subst hcs
 exact ⟨⟨b, f, m, s⟩, k127_mk w _, hw⟩
theorem opens138 : Opens enc w base spare held k138 138 (fun _ => True) := by
 intro fuel cs x h
 obtain ⟨xs, n, _, _, hl, hxl, hf⟩ := DataW.trod_struct Try.underlying138 h
 have get : ∀ i (hi : i < xs.length), xs[i]? = some xs[i] := fun i hi => List.getElem?_eq_getElem hi
 have hxl' : xs.length = 2 := hxl
 have hl' : cs.length = 2 := by rw [hl]; kernel_rfl
 obtain ⟨f, hff, _, _⟩ := DataW.trod_int Try.underlying3 ((hf 0 _ rfl).trans (get 0 (by omega)))
 obtain ⟨m, hm, _, _⟩ := DataW.trod_int Try.underlying3 ((hf 1 _ rfl).trans (get 1 (by omega)))
 have hcs : cs = [.int .i64 f, .int .i64 m] := by
  have e0 := cut_one (a := 0) hff
  have e1 := cut_one (a := 1) hm
  have e2 : cs.drop 2 = [] := List.drop_of_length_le (by omega)
  rw [List.drop_zero, show 0 + 1 = 1 from rfl, e1, show 1 + 1 = 2 from rfl, e2] at e0
  exact e0
 subst hcs
 exact ⟨⟨f, m⟩, k138_mk w _, trivial⟩
theorem opens105 : Opens enc w base spare held k105 105 (fun x => ∀ v ∈ x.f1, (Lit.int .i64 v).wf = true) := by
 intro fuel cs x h
 obtain ⟨xs, n, _, _, hl, hxl, hf⟩ := DataW.trod_struct Try.underlying105 h
 have get : ∀ i (hi : i < xs.length), xs[i]? = some xs[i] := fun i hi => List.getElem?_eq_getElem hi
 have hxl' : xs.length = 4 := hxl
 have hl' : cs.length = 4 := by rw [hl]; kernel_rfl
 obtain ⟨k, hk, _, _⟩ := DataW.trod_int Try.underlying3 ((hf 0 _ rfl).trans (get 0 (by omega)))
 obtain ⟨l1, ⟨A1, c1, h1, n1, g1⟩, r1⟩ := opens_slice (d := Kd.int .i64) Try.underlying101 (by kernel_rfl) (opens_int Try.underlying2) _ _ _ ((hf 1 _ rfl).trans (get 1 (by omega)))
 obtain ⟨l2, ⟨A2, c2, h2, n2, g2⟩, _⟩ := opens_slice (d := Kd.string) Try.underlying102 (by kernel_rfl) (opens_string Try.underlying9) _ _ _ ((hf 2 _ rfl).trans (get 2 (by omega)))
 obtain ⟨l3, ⟨A3, c3, h3, n3, g3⟩, _⟩ := opens_slice (d := Kd.int .i64) Try.underlying103 (by kernel_rfl) (opens_int Try.underlying3) _ _ _ ((hf 3 _ rfl).trans (get 3 (by omega)))
 have hcs : cs = [.int .i64 k, .slice A1 l1.length c1, .slice A2 l2.length c2, .slice A3 l3.length c3] := by
  have e0 := cut_one (a := 0) hk
  have e1 := cut_one (a := 1) h1
  have e2 := cut_one (a := 2) h2
  have e3 := cut_one (a := 3) h3
  have e4 : cs.drop 4 = [] := List.drop_of_length_le (by omega)
  rw [List.drop_zero, show 0 + 1 = 1 from rfl, e1, show 1 + 1 = 2 from rfl, e2, show 2 + 1 = 3 from rfl, e3, show 3 + 1 = 4 from rfl, e4] at e0
  exact e0
 subst hcs
 exact ⟨⟨k, l1, l2, l3⟩, k105_mk w ⟨k, l1, l2, l3⟩ n1 g1 n2 g2 n3 g3, r1⟩
theorem opens107 : Opens enc w base spare held k107 107 (fun o => (∀ s ∈ o.f2, (Lit.int .i64 s.f2).wf = true) ∧ ∀ v ∈ o.f4.f1, (Lit.int .i64 v).wf = true) := by
 intro fuel cs x h
 obtain ⟨xs, n, _, _, hl, hxl, hf⟩ := DataW.trod_struct Try.underlying107 h
 have get : ∀ i (hi : i < xs.length), xs[i]? = some xs[i] := fun i hi => List.getElem?_eq_getElem hi
 have hxl' : xs.length = 5 := hxl
 have hl' : cs.length = 8 := by rw [hl]; kernel_rfl
 obtain ⟨k, hk, _, _⟩ := DataW.trod_int Try.underlying3 ((hf 0 _ rfl).trans (get 0 (by omega)))
 obtain ⟨bp, hb, _, _⟩ := DataW.trod_int Try.underlying3 ((hf 1 _ rfl).trans (get 1 (by omega)))
 obtain ⟨l2, ⟨A2, c2, h2, n2, g2⟩, r2⟩ := opens_slice Try.underlying99 (by kernel_rfl) opens127 _ _ _ ((hf 2 _ rfl).trans (get 2 (by omega)))
 obtain ⟨l3, ⟨A3, c3, h3, n3, g3⟩, _⟩ := opens_slice Try.underlying100 (by kernel_rfl) opens138 _ _ _ ((hf 3 _ rfl).trans (get 3 (by omega)))
 obtain ⟨x4, hx4, r4⟩ := opens105 _ _ _ ((hf 4 _ rfl).trans (get 4 (by omega)))
 obtain ⟨A5, c5, A6, c6, A7, c7, h4, n5, g5, n6, g6, n7, g7⟩ := k105_open hx4
 have hcs : cs = [.int .i64 k, .int .i64 bp, .slice A2 l2.length c2, .slice A3 l3.length c3, .int .i64 x4.f0, .slice A5 x4.f1.length c5, .slice A6 x4.f2.length c6, .slice A7 x4.f3.length c7] := by
  have e0 := cut_one (a := 0) hk
  have e1 := cut_one (a := 1) hb
  have e2 := cut_one (a := 2) h2
  have e3 := cut_one (a := 3) h3
  have e4 : cs.drop 4 = [.int .i64 x4.f0, .slice A5 x4.f1.length c5, .slice A6 x4.f2.length c6, .slice A7 x4.f3.length c7] := by
   rw [← h4]
   exact (List.take_of_length_le (by rw [List.length_drop, hl']; exact Nat.le_refl _)).symm
  rw [List.drop_zero, show 0 + 1 = 1 from rfl, e1, show 1 + 1 = 2 from rfl, e2, show 2 + 1 = 3 from rfl, e3, show 3 + 1 = 4 from rfl, e4] at e0
  exact e0
 subst hcs
 exact ⟨⟨k, bp, l2, l3, x4⟩, k107_mk w ⟨k, bp, l2, l3, x4⟩ n2 g2 n3 g3 n5 g5 n6 g6 n7 g7, r2, r4⟩
theorem patch_open {r : Reach} {b0 : Nat} {v : Value} {d : DataW H} {p : List MemPlace} (hv : Value.okWide Try.prog w r b0 57 v) (h : DataW.Trod enc Try.prog w base spare held 57 v d p) :
  ∃ (sum len way : Int) (A : Option Addr) (c : Nat) (l : List S107) (file : ByteArray), v = .agg #[.int .u32 sum, .int .i64 len, .int .i64 way, .slice A l.length c, .string file] ∧ (0 ≤ sum ∧ sum ≤ 4294967295) ∧ l.length ≤ c ∧ Kd.C k107 w A l.length l ∧
   ∀ o ∈ l, (∀ s ∈ o.f2, (Lit.int .i64 s.f2).wf = true) ∧ ∀ v ∈ o.f4.f1, (Lit.int .i64 v).wf = true := by
 obtain ⟨cs, rfl, hsz⟩ := okWide_struct Try.underlying57 hv
 obtain ⟨fuel, hf0⟩ := h
 have hc : ((Value.agg cs).cells).toList = cs.toList := rfl
 rw [hc] at hf0
 obtain ⟨xs, n, _, _, hl, hxl, hf⟩ := DataW.trod_struct Try.underlying57 hf0
 have get : ∀ i (hi : i < xs.length), xs[i]? = some xs[i] := fun i hi => List.getElem?_eq_getElem hi
 have hxl' : xs.length = 5 := hxl
 have hl' : cs.toList.length = 5 := by rw [hl]; kernel_rfl
 obtain ⟨sum, hk, _, hw⟩ := DataW.trod_int Try.underlying23 ((hf 0 _ rfl).trans (get 0 (by omega)))
 obtain ⟨len, hb, _, _⟩ := DataW.trod_int Try.underlying3 ((hf 1 _ rfl).trans (get 1 (by omega)))
 obtain ⟨way, hy, _, _⟩ := DataW.trod_int Try.underlying3 ((hf 2 _ rfl).trans (get 2 (by omega)))
 obtain ⟨l, ⟨A, c, h3, n3, g3⟩, r3⟩ := opens_slice Try.underlying55 (by kernel_rfl) opens107 _ _ _ ((hf 3 _ rfl).trans (get 3 (by omega)))
 obtain ⟨file, h4, _, _⟩ := DataW.trod_string Try.underlying9 ((hf 4 _ rfl).trans (get 4 (by omega)))
 have hcs : cs.toList = [.int .u32 sum, .int .i64 len, .int .i64 way, .slice A l.length c, .string file] := by
  have e0 := cut_one (a := 0) hk
  have e1 := cut_one (a := 1) hb
  have e2 := cut_one (a := 2) hy
  have e3 := cut_one (a := 3) h3
  have e4 := cut_one (a := 4) h4
  have e5 : cs.toList.drop 5 = [] := List.drop_of_length_le (by omega)
  rw [List.drop_zero, show 0 + 1 = 1 from rfl, e1, show 1 + 1 = 2 from rfl, e2, show 2 + 1 = 3 from rfl, e3, show 3 + 1 = 4 from rfl, e4, show 4 + 1 = 5 from rfl, e5] at e0
  exact e0
 exact ⟨sum, len, way, A, c, l, file, by congr 1; exact Array.ext' hcs, bounds_u32 hw, n3, g3, r3⟩
end
end Go.Proofs.Ytdjpelcdijpihaa.PrintF
