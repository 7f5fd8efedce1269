/- A part of the proof of the claim: what it uses of the text HandPatchGS. -/
import Derived.Test.YtdjpelcdijpihaaVPrintF3
import Derived.Test.YtdjpelcdijpihaaVPrintF1
import Derived.Test.YtdjpelcdijpihaaVPrintC1
import Derived.Deep.RegionHeld3
import Derived.IntWalk
namespace Go.Proofs.Ytdjpelcdijpihaa.PrintF
open Go.RowKit Go.Proofs.Ytdjpelcdijpihaa.Print Go.Proofs.YtdjpelcdijpihaaW.PrintWords Go.Proofs.YtdjpelcdijpihaaW.PrintLast Go.Lib
set_option linter.unusedVariables false
set_option linter.unusedSimpArgs false
def Z57 (W : World) (g : Nat) : Prop := W.heap[g]? = some (.cells #[.int .u32 0, .int .i64 0, .int .i64 0, .slice none 0 0, .string ⟨#[]⟩] 57 (0, 0))
theorem Z57.cells {W : World} {g : Nat} (h : Z57 W g) : (W.cell? ⟨g, 0, none⟩ = some (.int .u32 0) ∧ W.cell? ⟨g, 1, none⟩ = some (.int .i64 0) ∧ W.cell? ⟨g, 2, none⟩ = some (.int .i64 0) ∧ W.cell? ⟨g, 3, none⟩ = some (.slice none 0 0) ∧ W.cell? ⟨g, 4, none⟩ = some (.string ⟨#[]⟩)) ∧
  W.frozen? ⟨g, 0, none⟩ = false ∧ W.frozen? ⟨g, 1, none⟩ = false ∧ W.frozen? ⟨g, 2, none⟩ = false ∧ W.frozen? ⟨g, 3, none⟩ = false ∧ W.frozen? ⟨g, 4, none⟩ = false :=
 ⟨⟨(blk_cell h 0).trans rfl, (blk_cell h 1).trans rfl, (blk_cell h 2).trans rfl, (blk_cell h 3).trans rfl, (blk_cell h 4).trans rfl⟩, blk_frozen h 0, blk_frozen h 1, blk_frozen h 2, blk_frozen h 3, blk_frozen h 4⟩
theorem set57 {W : World} {g : Nat} {o0 o1 o2 o3 o4 : Value} (a b c d e : Value) (h : W.heap[g]? = some (.cells #[o0, o1, o2, o3, o4] 57 (0, 0))) :
  (((((W.setCell ⟨g, 0, none⟩ a).setCell ⟨g, 1, none⟩ b).setCell ⟨g, 2, none⟩ c).setCell ⟨g, 3, none⟩ d).setCell ⟨g, 4, none⟩ e).heap[g]? = some (.cells #[a, b, c, d, e] 57 (0, 0)) :=
 (blk_set (blk_set (blk_set (blk_set (blk_set h 0 a) 1 b) 2 c) 3 d) 4 e).trans rfl
theorem below57 {w W : World} {g : Nat} (a b c d e : Value) (h : Below w.heap.size w W) (hg : w.heap.size ≤ g) :
  Below w.heap.size w (((((W.setCell ⟨g, 0, none⟩ a).setCell ⟨g, 1, none⟩ b).setCell ⟨g, 2, none⟩ c).setCell ⟨g, 3, none⟩ d).setCell ⟨g, 4, none⟩ e) :=
 below_set (below_set (below_set (below_set (below_set h hg) hg) hg) hg) hg
theorem two_cells {w : World} {v : Value} {base : Nat} {ok : Nat → Prop} {s0 s1 : S52} (h : Kd.R k52 52 w base ok v [s0, s1]) :
  ∃ ad c, v = .slice (some ad) 2 c ∧ 2 ≤ c ∧ w.cell? ad = some (.int .i64 s0.f0) ∧ w.cell? ⟨ad.block, ad.off + 1, none⟩ = some (.string s0.f1) ∧
   w.cell? ⟨ad.block, ad.off + 2, none⟩ = some (.int .i64 s1.f0) ∧ w.cell? ⟨ad.block, ad.off + 3, none⟩ = some (.string s1.f1) := by
 obtain ⟨A, c, rfl⟩ := Kd.R_slice h
 have h2 := (Kd.R_reads' h).2.2
 have hc := (Kd.R_reads' h).2.1
 obtain ⟨ad, e0, a0, a1⟩ := at_T52 h2 0 (by omega) (by simp)
 obtain ⟨ad', e1, b0, b1⟩ := at_T52 h2 1 (by omega) (by simp)
 rw [e0] at e1
 cases e1
 have e : ad.add 0 = ad := by cases ad; rfl
 have a0' : w.cell? (ad.add 0) = some (.int .i64 s0.f0) := a0
 have a1' : w.cell? ⟨(ad.add 0).block, (ad.add 0).off + 1, none⟩ = some (.string s0.f1) := a1
 rw [e] at a0' a1'
 exact ⟨ad, c, by rw [e0]; rfl, hc, a0', a1', b0, b1⟩
theorem far57 {W : World} {g g' : Nat} (a b c d e : Value) (h : Z57 W g') (hne : g' ≠ g) : Z57 (((((W.setCell ⟨g, 0, none⟩ a).setCell ⟨g, 1, none⟩ b).setCell ⟨g, 2, none⟩ c).setCell ⟨g, 3, none⟩ d).setCell ⟨g, 4, none⟩ e) g' :=
 blk_far (blk_far (blk_far (blk_far (blk_far h hne a) hne b) hne c) hne d) hne e
theorem cellfar {W : World} {g : Nat} {p : Addr} {v : Value} (i : Nat) (a : Value) (h : W.cell? p = some v) (hne : p.block ≠ g) : (W.setCell ⟨g, i, none⟩ a).cell? p = some v := by
 rw [World.cell?_setCell_far _ _ _ _ (Ne.symm hne)]
 exact h
theorem blk_ne {W : World} {g g' : Nat} {cs cs' : Array Value} {t t' : TypeId} {fr fr' : Nat × Nat} (h : W.heap[g]? = some (.cells cs t fr)) (h' : W.heap[g']? = some (.cells cs' t' fr')) (ht : t ≠ t') : g ≠ g' := by
 rintro rfl
 rw [h] at h'
 injection h' with h'
 injection h' with _ h2
 exact ht h2
def GS (w W : World) (g2 g11 g12 gc : Nat) (sum len way : Int) (ops : Value) (file cb : ByteArray) (at_ : Int) (err : Option Int) : Prop :=
 Z57 W g2 ∧ W.heap[g11]? = some (.cells #[.int .u32 sum, .int .i64 len, .int .i64 way, ops, .string file] 57 (0, 0)) ∧ W.heap[g12]? = some (.cells #[.pointer (some ⟨gc, 0, none⟩)] 86 (0, 0)) ∧ IsS122 w W gc cb at_ err ∧
  Below w.heap.size w W ∧ w.heap.size ≤ g2 ∧ w.heap.size ≤ g11 ∧ w.heap.size ≤ g12 ∧ g2 ≠ g11
theorem GS.keep {w W W1 : World} {g2 g11 g12 gc : Nat} {sum len way : Int} {ops : Value} {file cb cb' : ByteArray} {a a' : Int} {e e' : Option Int} (h : GS w W g2 g11 g12 gc sum len way ops file cb a e) (hk : KeepBut W W1 gc none)
  (hI : IsS122 w W1 gc cb' a' e') (hB : Below w.heap.size w W1) : GS w W1 g2 g11 g12 gc sum len way ops file cb' a' e' := by
 obtain ⟨z, b, c, i, _, r⟩ := h
 have n2 := (IsS122.ne_blk i z (by decide)).symm
 have n11 := (IsS122.ne_blk i b (by decide)).symm
 have n12 := (IsS122.ne_blk i c (by decide)).symm
 exact ⟨hk.blk z n2 (by simp), hk.blk b n11 (by simp), hk.blk c n12 (by simp), hI, hB, r⟩
theorem GS.is {w W : World} {g2 g11 g12 gc : Nat} {sum len way : Int} {ops : Value} {file cb : ByteArray} {a : Int} {e : Option Int} (h : GS w W g2 g11 g12 gc sum len way ops file cb a e) : IsS122 w W gc cb a e := h.2.2.2.1
theorem GS.bel {w W : World} {g2 g11 g12 gc : Nat} {sum len way : Int} {ops : Value} {file cb : ByteArray} {a : Int} {e : Option Int} (h : GS w W g2 g11 g12 gc sum len way ops file cb a e) : Below w.heap.size w W := h.2.2.2.2.1
theorem GS.drew {w W : World} {g2 g11 g12 gc : Nat} {sum len way : Int} {ops : Value} {file cb : ByteArray} {a : Int} {e : Option Int} (h : GS w W g2 g11 g12 gc sum len way ops file cb a e) : GS w W.drew g2 g11 g12 gc sum len way ops file cb a e :=
 ⟨h.1, h.2.1, h.2.2.1, h.2.2.2.1, below_drew1 h.2.2.2.2.1, h.2.2.2.2.2⟩
theorem GS.setf {w W : World} {g2 g11 g12 gc : Nat} {sum len way : Int} {ops : Value} {file cb : ByteArray} {a : Int} {e : Option Int} (fb : ByteArray) (h : GS w W g2 g11 g12 gc sum len way ops file cb a e) :
  GS w (W.setCell ⟨g11, 4, none⟩ (.string fb)) g2 g11 g12 gc sum len way ops fb cb a e := by
 obtain ⟨z, b, c, i, bl, a2, a11, a12, ne⟩ := h
 have n12 := blk_ne c b (by decide)
 have nc := IsS122.ne_blk i b (by decide)
 exact ⟨blk_far z ne _, blk_put b 4 _ rfl, blk_far c n12 _, IsS122.far i nc _, below_set bl a11, a2, a11, a12, ne⟩
theorem GS.c12 {w W : World} {g2 g11 g12 gc : Nat} {sum len way : Int} {ops : Value} {file cb : ByteArray} {a : Int} {e : Option Int} (h : GS w W g2 g11 g12 gc sum len way ops file cb a e) : W.cell? ⟨g12, 0, none⟩ = some (.pointer (some ⟨gc, 0, none⟩)) :=
 (blk_cell h.2.2.1 0).trans rfl
theorem GS.c11 {w W : World} {g2 g11 g12 gc : Nat} {sum len way : Int} {ops : Value} {file cb : ByteArray} {a : Int} {e : Option Int} (h : GS w W g2 g11 g12 gc sum len way ops file cb a e) :
  (W.cell? ⟨g11, 0, none⟩ = some (.int .u32 sum) ∧ W.cell? ⟨g11, 1, none⟩ = some (.int .i64 len) ∧ W.cell? ⟨g11, 2, none⟩ = some (.int .i64 way) ∧ W.cell? ⟨g11, 3, none⟩ = some ops ∧ W.cell? ⟨g11, 4, none⟩ = some (.string file)) ∧ W.frozen? ⟨g11, 4, none⟩ = false :=
 ⟨⟨(blk_cell h.2.1 0).trans rfl, (blk_cell h.2.1 1).trans rfl, (blk_cell h.2.1 2).trans rfl, (blk_cell h.2.1 3).trans rfl, (blk_cell h.2.1 4).trans rfl⟩, blk_frozen h.2.1 4⟩
end Go.Proofs.Ytdjpelcdijpihaa.PrintF
