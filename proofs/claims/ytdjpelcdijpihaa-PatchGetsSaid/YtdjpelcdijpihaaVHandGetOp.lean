/- A part of the proof of the claim: what it uses of the text HandGetOp. -/
import Derived.Test.YtdjpelcdijpihaaVHandClo
namespace Go.Proofs.Ytdjpelcdijpihaa.PrintF
open Go.RowKit Go.Proofs.Ytdjpelcdijpihaa.Print Go.Proofs.YtdjpelcdijpihaaW.PrintWords Go.Proofs.YtdjpelcdijpihaaW.PrintLast Go.Lib
set_option linter.unusedVariables false
set_option linter.unusedSimpArgs false
theorem set107 {W : World} {g : Nat} {o0 o1 o2 o3 o4 o5 o6 o7 : Value} (a b c d e f x y : Value) (h : W.heap[g]? = some (.cells #[o0, o1, o2, o3, o4, o5, o6, o7] 107 (0, 0))) :
  ((((((((W.setCell ⟨g, 0, none⟩ a).setCell ⟨g, 1, none⟩ b).setCell ⟨g, 2, none⟩ c).setCell ⟨g, 3, none⟩ d).setCell ⟨g, 4, none⟩ e).setCell ⟨g, 5, none⟩ f).setCell ⟨g, 6, none⟩ x).setCell ⟨g, 7, none⟩ y).heap[g]? = some (.cells #[a, b, c, d, e, f, x, y] 107 (0, 0)) := by
 have h0 : (W.setCell ⟨g, 0, none⟩ a).heap[g]? = some (.cells #[a, o1, o2, o3, o4, o5, o6, o7] 107 (0, 0)) := blk_put h 0 a rfl
 have h1 : ((W.setCell ⟨g, 0, none⟩ a).setCell ⟨g, 1, none⟩ b).heap[g]? = some (.cells #[a, b, o2, o3, o4, o5, o6, o7] 107 (0, 0)) := blk_put h0 1 b rfl
 have h2 : (((W.setCell ⟨g, 0, none⟩ a).setCell ⟨g, 1, none⟩ b).setCell ⟨g, 2, none⟩ c).heap[g]? = some (.cells #[a, b, c, o3, o4, o5, o6, o7] 107 (0, 0)) := blk_put h1 2 c rfl
 have h3 : ((((W.setCell ⟨g, 0, none⟩ a).setCell ⟨g, 1, none⟩ b).setCell ⟨g, 2, none⟩ c).setCell ⟨g, 3, none⟩ d).heap[g]? = some (.cells #[a, b, c, d, o4, o5, o6, o7] 107 (0, 0)) := blk_put h2 3 d rfl
 have h4 : (((((W.setCell ⟨g, 0, none⟩ a).setCell ⟨g, 1, none⟩ b).setCell ⟨g, 2, none⟩ c).setCell ⟨g, 3, none⟩ d).setCell ⟨g, 4, none⟩ e).heap[g]? = some (.cells #[a, b, c, d, e, o5, o6, o7] 107 (0, 0)) := blk_put h3 4 e rfl
 have h5 : ((((((W.setCell ⟨g, 0, none⟩ a).setCell ⟨g, 1, none⟩ b).setCell ⟨g, 2, none⟩ c).setCell ⟨g, 3, none⟩ d).setCell ⟨g, 4, none⟩ e).setCell ⟨g, 5, none⟩ f).heap[g]? = some (.cells #[a, b, c, d, e, f, o6, o7] 107 (0, 0)) := blk_put h4 5 f rfl
 have h6 : (((((((W.setCell ⟨g, 0, none⟩ a).setCell ⟨g, 1, none⟩ b).setCell ⟨g, 2, none⟩ c).setCell ⟨g, 3, none⟩ d).setCell ⟨g, 4, none⟩ e).setCell ⟨g, 5, none⟩ f).setCell ⟨g, 6, none⟩ x).heap[g]? = some (.cells #[a, b, c, d, e, f, x, o7] 107 (0, 0)) := blk_put h5 6 x rfl
 have h7 : ((((((((W.setCell ⟨g, 0, none⟩ a).setCell ⟨g, 1, none⟩ b).setCell ⟨g, 2, none⟩ c).setCell ⟨g, 3, none⟩ d).setCell ⟨g, 4, none⟩ e).setCell ⟨g, 5, none⟩ f).setCell ⟨g, 6, none⟩ x).setCell ⟨g, 7, none⟩ y).heap[g]? = some (.cells #[a, b, c, d, e, f, x, y] 107 (0, 0)) := blk_put h6 7 y rfl
 exact h7
section
variable {w0 w W : World} {gr go gq gc : Nat} {cb : ByteArray} {s : PS}
theorem OI.start (n : Int) (hi : IsS122 w0 W gc cb (atOf cb s) s.2) (hb : Below w0.heap.size w0 W) (hg : Good cb s) (hk : KeepBut w W gc none) (hc : W.heap[gq]? = some (.cells #[.pointer (some ⟨gc, 0, none⟩)] 86 (0, 0))) (lt : gc < w.heap.size) (ge : w.heap.size ≤ go) (le : w0.heap.size ≤ w.heap.size)
  (hx : W.heap[go]? = some (.cells zero8 107 (0, 0))) (hr : W.heap[gr]? = some (.cells zero8 107 (0, 0))) (nr : gr ≠ go) (gg : w.heap.size ≤ gr) :
  OI w0 w gr go gq gc cb ((((((((W.setCell ⟨go, 0, none⟩ (.int .i64 n)).setCell ⟨go, 1, none⟩ (.int .i64 0)).setCell ⟨go, 2, none⟩ (.slice none 0 0)).setCell ⟨go, 3, none⟩ (.slice none 0 0)).setCell ⟨go, 4, none⟩ (.int .i64 0)).setCell ⟨go, 5, none⟩ (.slice none 0 0)).setCell ⟨go, 6, none⟩ (.slice none 0 0)).setCell ⟨go, 7, none⟩ (.slice none 0 0)) s ⟨n, 0, [], [], zero105⟩ (.slice none 0 0) (.slice none 0 0) (.slice none 0 0) (.slice none 0 0) (.slice none 0 0) := by
 have nq : gq ≠ go := fun e => by rw [e, hx] at hc; simp at hc
 have nc : gc ≠ go := Nat.ne_of_lt (Nat.lt_of_lt_of_le lt ge)
 refine ⟨(IsS122.far (IsS122.far (IsS122.far (IsS122.far (IsS122.far (IsS122.far (IsS122.far (IsS122.far hi nc _) nc _) nc _) nc _) nc _) nc _) nc _) nc _), (below_set (below_set (below_set (below_set (below_set (below_set (below_set (below_set hb (Nat.le_trans le ge)) (Nat.le_trans le ge)) (Nat.le_trans le ge)) (Nat.le_trans le ge)) (Nat.le_trans le ge)) (Nat.le_trans le ge)) (Nat.le_trans le ge)) (Nat.le_trans le ge)), hg, (keep_far (keep_far (keep_far (keep_far (keep_far (keep_far (keep_far (keep_far hk ge _) ge _) ge _) ge _) ge _) ge _) ge _) ge _), (blk_far (blk_far (blk_far (blk_far (blk_far (blk_far (blk_far (blk_far hc nq _) nq _) nq _) nq _) nq _) nq _) nq _) nq _), lt, ge, le, set107 _ _ _ _ _ _ _ _ hx, Kd.R_nil _ _ _ _ _, Kd.R_nil _ _ _ _ _, Kd.R_nil _ _ _ _ _, Kd.R_nil _ _ _ _ _, Kd.R_nil _ _ _ _ _, (blk_far (blk_far (blk_far (blk_far (blk_far (blk_far (blk_far (blk_far hr nr _) nr _) nr _) nr _) nr _) nr _) nr _) nr _), nr, gg⟩
end
theorem cells8 {W : World} {g : Nat} {a b c d e f x y : Value} (h : W.heap[g]? = some (.cells #[a, b, c, d, e, f, x, y] 107 (0, 0))) :
  (W.cell? ⟨g, 0, none⟩ = some a ∧ W.cell? ⟨g, 1, none⟩ = some b ∧ W.cell? ⟨g, 2, none⟩ = some c ∧ W.cell? ⟨g, 3, none⟩ = some d ∧ W.cell? ⟨g, 4, none⟩ = some e ∧ W.cell? ⟨g, 5, none⟩ = some f ∧ W.cell? ⟨g, 6, none⟩ = some x ∧ W.cell? ⟨g, 7, none⟩ = some y) ∧
  W.frozen? ⟨g, 0, none⟩ = false ∧ W.frozen? ⟨g, 1, none⟩ = false ∧ W.frozen? ⟨g, 2, none⟩ = false ∧ W.frozen? ⟨g, 3, none⟩ = false ∧ W.frozen? ⟨g, 4, none⟩ = false ∧ W.frozen? ⟨g, 5, none⟩ = false ∧ W.frozen? ⟨g, 6, none⟩ = false ∧ W.frozen? ⟨g, 7, none⟩ = false :=
 ⟨⟨(blk_cell h 0).trans rfl, (blk_cell h 1).trans rfl, (blk_cell h 2).trans rfl, (blk_cell h 3).trans rfl, (blk_cell h 4).trans rfl, (blk_cell h 5).trans rfl, (blk_cell h 6).trans rfl, (blk_cell h 7).trans rfl⟩,
  blk_frozen h 0, blk_frozen h 1, blk_frozen h 2, blk_frozen h 3, blk_frozen h 4, blk_frozen h 5, blk_frozen h 6, blk_frozen h 7⟩
theorem R_res {α : Type} {d : Kd α} {e base g : Nat} {W W1 : World} {v : Value} {xs : List α} {cs : Array Value} {t : Nat} (h : d.R e W base (fun _ => True) v xs) (hb : W.heap[g]? = some (.cells cs t (0, 0))) (ht : ∀ q, q ∈ e :: d.E → q ≠ t) (hm : ∀ j, j ≠ g → W1.heap[j]? = W.heap[j]?) : d.R e W1 base (fun _ => True) v xs :=
 Kd.R_mono (Kd.R_move (Kd.R_types h hb ht) (fun k hk => hm k hk.2)) (fun _ _ => trivial)
set_option maxHeartbeats 16000000 in
set_option maxRecDepth 100000 in
theorem getop_calls {w0 w : World} {gc : Nat} {cb : ByteArray} {s : PS} (hcb : cb.size ≤ 140737488355328) (hi : IsS122 w0 w gc cb (atOf cb s) s.2) (hb : Below w0.heap.size w0 w) (hg : Good cb s) :
  Calls Try.prog 64 #[.pointer (some ⟨gc, 0, none⟩)] w fun e w' => ∃ v2 v3 v5 v6 v7, e = .returned (.agg #[.int .i64 (opP s).1.f0, .int .i64 (opP s).1.f1, v2, v3, .int .i64 (opP s).1.f4.f0, v5, v6, v7]) ∧ k107.M w' w.heap.size (fun _ => True) (opP s).1 [.int .i64 (opP s).1.f0, .int .i64 (opP s).1.f1, v2, v3, .int .i64 (opP s).1.f4.f0, v5, v6, v7] ∧ IsS122 w0 w' gc cb (atOf cb (opP s).2) (opP s).2.2 ∧ Below w0.heap.size w0 w' ∧ KeepBut w w' gc none := by
 have HI := Lib.hid hi
 have HB := Lib.hid hb
 have HG := Lib.hid hg
 have HL := Lib.hid (IsS122.lt hi)
 have HLE : Hid (w0.heap.size ≤ w.heap.size) := Lib.hid HB.out.size
 obtain ⟨R, hR⟩ : ∃ R, R = opP s := ⟨_, rfl⟩
 rw [← hR]
 have HR := Lib.hid hR
 clear hR
 clear hi hb hg
 have hu107 := Try.underlying107
 have hu86 := Try.underlying86
 go_enter Try.func64, Try.ntmps64
 go_upto_region 2 with (first | ((with_reducible refine gate_dst (N := 1) rfl ?_); refine box_event ?hg (N := 1) ?hd (cs := #[.pointer (some ⟨gc, 0, none⟩)]) (t := 86) ?hr ?_; (case hd => rfl); (case hg => rfl); (case hr => first | (go_simp; done) | (go_simp; rfl)); intro gq hgq w1 hq hb_; have HGQ : Hid (gq = w.heap.size) := Lib.hid hgq; have HQ1 := Lib.hid hq; have HI1 := Lib.hid (IsS122.below HI.out hb_); have HB1 := Lib.hid (below_step HB.out hb_); have HK1 : Hid (KeepBut w w1 gc none) := Lib.hid (KeepBut.of_below hb_ gc none); clear hgq hq hb_ HI HB) | ((with_reducible refine gate_dst (N := 2) rfl ?_); refine box_event ?hg (N := 2) ?hd (cs := #[.int .i64 0, .int .i64 0, .slice none 0 0, .slice none 0 0, .int .i64 0, .slice none 0 0, .slice none 0 0, .slice none 0 0]) (t := 107) ?hr ?_; (case hd => rfl); (case hg => rfl); (case hr => first | (go_simp; done) | (go_simp; rfl)); intro gr hgr w2 hr hb_; have HGR : Hid (w.heap.size ≤ gr) := Lib.hid (by rw [hgr]; exact HK1.out.1); have HR2 : Hid (w2.heap[gr]? = some (.cells zero8 107 (0, 0))) := Lib.hid hr; have HQ2 := Lib.hid (blk_below HQ1.out hb_); have HI2 := Lib.hid (IsS122.below HI1.out hb_); have HB2 := Lib.hid (below_step HB1.out hb_); have HK2 : Hid (KeepBut w w2 gc none) := Lib.hid (KeepBut.trans HK1.out (KeepBut.of_below hb_ gc none) (.inl rfl)); clear hgr hr hb_ HI1 HB1 HQ1 HK1; have x0 : w2.cell? ⟨gq, 0, none⟩ = some (.pointer (some ⟨gc, 0, none⟩)) := (blk_cell HQ2.out 0).trans rfl) | (go_at_call 73; refine (cursor_Cursor_Uint.calls (rdsOf cb) gc cb (atOf cb s) s.2 16777216 _ _ _ _ w0 _ HI2.out HB2.out (uint_cur hcb s HG.out.1).1).mono ?_; rintro e w3 ⟨rfl, i3, b3, k3⟩; have HI3 := Lib.hid i3; have HB3 := Lib.hid b3; have HK3 := Lib.hid (KeepBut.trans HK2.out k3 (.inl rfl)); have HQ3 := Lib.hid (k3.blk HQ2.out (IsS122.ne_blk HI2.out HQ2.out (by decide)).symm (by simp)); have HR3 := Lib.hid (k3.blk HR2.out (IsS122.ne_blk HI2.out HR2.out (by decide)).symm (by simp)); clear i3 b3 k3 HI2 HB2 HK2 HQ2 HR2 x0) | ((with_reducible refine gate_dst (N := 3) rfl ?_); refine box_event ?hg (N := 3) ?hd (cs := #[.int .i64 0, .int .i64 0, .slice none 0 0, .slice none 0 0, .int .i64 0, .slice none 0 0, .slice none 0 0, .slice none 0 0]) (t := 107) ?hr ?_; (case hd => rfl); (case hg => rfl); (case hr => first | (go_simp; done) | (go_simp; rfl)); intro go hgo w4 ho hb_; have HGO : Hid (w.heap.size ≤ go) := Lib.hid (by rw [hgo]; exact HK3.out.1); have HNR : Hid (gr ≠ go) := Lib.hid (by rw [hgo]; exact Nat.ne_of_lt (blk_lt HR3.out)); have HO4 : Hid (w4.heap[go]? = some (.cells zero8 107 (0, 0))) := Lib.hid ho; have HQ4 := Lib.hid (blk_below HQ3.out hb_); have HR4 := Lib.hid (blk_below HR3.out hb_); have HI4 := Lib.hid (IsS122.below HI3.out hb_); have HB4 := Lib.hid (below_step HB3.out hb_); have HK4 : Hid (KeepBut w w4 gc none) := Lib.hid (KeepBut.trans HK3.out (KeepBut.of_below hb_ gc none) (.inl rfl)); clear hgo ho hb_ HI3 HB3 HQ3 HR3 HK3; obtain ⟨⟨x0, x1, x2, x3, x4, x5, x6, x7⟩, y0, y1, y2, y3, y4, y5, y6, y7⟩ := cells8 HO4.out))
 have N_ := Lib.hid (OI.start (uintP s).1 HI4.out HB4.out HG.out.uint HK4.out HQ4.out HL.out HGO.out HLE.out HO4.out HR4.out HNR.out HGR.out)
 clear HI4 HB4 HG HK4 HQ4 HL HGO HLE HO4 HR4 HNR HGR HGQ x0 x1 x2 x3 x4 x5 x6 x7 y0 y1 y2 y3 y4 y5 y6 y7
 obtain ⟨W, hW⟩ : ∃ W, W = ((((((((w4.setCell ⟨go, 0, none⟩ (.int .i64 (uintP s).1)).setCell ⟨go, 1, none⟩ (.int .i64 0)).setCell ⟨go, 2, none⟩ (.slice none 0 0)).setCell ⟨go, 3, none⟩ (.slice none 0 0)).setCell ⟨go, 4, none⟩ (.int .i64 0)).setCell ⟨go, 5, none⟩ (.slice none 0 0)).setCell ⟨go, 6, none⟩ (.slice none 0 0)).setCell ⟨go, 7, none⟩ (.slice none 0 0)) := ⟨_, rfl⟩
 rw [← hW] at N_ ⊢
 clear hW
 obtain ⟨k, hk⟩ : ∃ k, k = (uintP s).1 := ⟨_, rfl⟩
 obtain ⟨s1, hs1⟩ : ∃ s1, s1 = (uintP s).2 := ⟨_, rfl⟩
 have HE : Hid (k = (uintP s).1 ∧ s1 = (uintP s).2) := Lib.hid ⟨hk, hs1⟩
 rw [← hk, ← hs1] at N_
 (try rw [← hk])
 clear hk hs1
 have x0 : W.cell? ⟨go, 0, none⟩ = some (.int .i64 k) := (blk_cell N_.out.box 0).trans rfl
 go_upto_block 0 with fail
 clear x0
 go_cut [] (fun wc => ∃ v2 v3 v5 v6 v7, Hid (OI w0 w gr go gq gc cb wc R.2 R.1 v2 v3 v5 v6 v7))
 case first =>
  have hq := N_.out.c0
  have hn1 := N_.out.ne
  have hne : (go = gq) = False := eq_false hn1
  have hne2 : (gq = go) = False := eq_false hn1.symm
  clear hn1
  by_cases h1 : k = 1
  ·have t1 : (k == 1) = true := beq_iff_eq.mpr h1
   have hR : R = (⟨k, (uintP s1).1, [], [], zero105⟩, (uintP s1).2) := by
    rw [HR.out, opP]
    simp only [← HE.out.1, ← HE.out.2]
    rw [if_pos h1]
   have HR2 := Lib.hid hR
   clear hR HR h1
   (try clear h2)
   (try clear h3)
   go_wp2_with (first | (go_at_call 73; refine (cursor_Cursor_Uint.calls (rdsOf cb) gc cb (atOf cb s1) s1.2 16777216 _ _ _ _ w0 _ N_.out.cur N_.out.bel (uint_cur hcb s1 N_.out.good.1).1).mono ?_; rintro e w5 ⟨rfl, i_, b_, k_⟩; have N2 := Lib.hid (N_.out.call N_.out.good.uint i_ b_ k_); clear i_ b_ k_ N_; have hq := N2.out.c0; obtain ⟨⟨x0, x1, x2, x3, x4, x5, x6, x7⟩, y0, y1, y2, y3, y4, y5, y6, y7⟩ := cells8 N2.out.box))
   go_meet
   case rel => exact ⟨_, _, _, _, _, Lib.hid (by rw [HR2.out]; exact N2.out.set1 _)⟩
  by_cases h2 : k = 2
  ·have t1 : (k == 1) = false := beq_eq_false_iff_ne.mpr h1
   have t2 : (k == 2) = true := beq_iff_eq.mpr h2
   have hR : R = (⟨k, (uintP s1).1, (countP setP (uintP s1).2).1, (countP editP (countP setP (uintP s1).2).2).1, zero105⟩, (countP editP (countP setP (uintP s1).2).2).2) := by
    rw [HR.out, opP]
    simp only [← HE.out.1, ← HE.out.2]
    rw [if_neg h1, if_pos h2]
   have HR2 := Lib.hid hR
   clear hR HR h1
   (try clear h2)
   (try clear h3)
   go_wp2_with (first | (go_at_call 73; refine (cursor_Cursor_Uint.calls (rdsOf cb) gc cb (atOf cb s1) s1.2 16777216 _ _ _ _ w0 _ N_.out.cur N_.out.bel (uint_cur hcb s1 N_.out.good.1).1).mono ?_; rintro e w5 ⟨rfl, i_, b_, k_⟩; have N2 := Lib.hid (N_.out.call N_.out.good.uint i_ b_ k_); clear i_ b_ k_ N_; have hq := N2.out.c0; obtain ⟨⟨x0, x1, x2, x3, x4, x5, x6, x7⟩, y0, y1, y2, y3, y4, y5, y6, y7⟩ := cells8 N2.out.box) | (go_at_call 62; refine (cnt83 (o := ⟨k, (uintP s1).1, [], [], zero105⟩) hcb (N2.out.set1 _)).mono ?_; rintro e w6 ⟨rfl, vw6, n_⟩; have N3 := Lib.hid n_; clear n_; clear N2; have hq := N3.out.c0) | (go_at_call 62; refine (cnt85 (o := ⟨k, (uintP s1).1, (countP setP (uintP s1).2).1, [], zero105⟩) hcb N3.out).mono ?_; rintro e w7 ⟨rfl, vw7, n_⟩; have N4 := Lib.hid n_; clear n_; clear N3; have hq := N4.out.c0))
   go_meet
   case rel => exact ⟨_, _, _, _, _, Lib.hid (by rw [HR2.out]; exact N4.out)⟩
  by_cases h3 : k = 3
  ·have t1 : (k == 1) = false := beq_eq_false_iff_ne.mpr h1
   have t2 : (k == 2) = false := beq_eq_false_iff_ne.mpr h2
   have t3 : (k == 3) = true := beq_iff_eq.mpr h3
   have hR : R = (⟨k, 0, [], [], ⟨(uintP s1).1, (countP intP (uintP s1).2).1, (countP textP (countP intP (uintP s1).2).2).1, (countP uintP (countP textP (countP intP (uintP s1).2).2).2).1⟩⟩, (countP uintP (countP textP (countP intP (uintP s1).2).2).2).2) := by
    rw [HR.out, opP]
    simp only [← HE.out.1, ← HE.out.2]
    rw [if_neg h1, if_neg h2, if_pos h3]; rfl
   have HR2 := Lib.hid hR
   clear hR HR h1
   (try clear h2)
   (try clear h3)
   go_wp2_with (first | (go_at_call 73; refine (cursor_Cursor_Uint.calls (rdsOf cb) gc cb (atOf cb s1) s1.2 16777216 _ _ _ _ w0 _ N_.out.cur N_.out.bel (uint_cur hcb s1 N_.out.good.1).1).mono ?_; rintro e w5 ⟨rfl, i_, b_, k_⟩; have N2 := Lib.hid (N_.out.call N_.out.good.uint i_ b_ k_); clear i_ b_ k_ N_; have hq := N2.out.c0; obtain ⟨⟨x0, x1, x2, x3, x4, x5, x6, x7⟩, y0, y1, y2, y3, y4, y5, y6, y7⟩ := cells8 N2.out.box) | (go_at_call 62; refine (cnt87 (o := ⟨k, 0, [], [], ⟨(uintP s1).1, [], [], []⟩⟩) hcb (N2.out.set4 _)).mono ?_; rintro e w6 ⟨rfl, vw6, n_⟩; have N3 := Lib.hid n_; clear n_; clear N2; have hq := N3.out.c0) | (go_at_call 62; refine (cnt89 (o := ⟨k, 0, [], [], ⟨(uintP s1).1, (countP intP (uintP s1).2).1, [], []⟩⟩) hcb N3.out).mono ?_; rintro e w7 ⟨rfl, vw7, n_⟩; have N4 := Lib.hid n_; clear n_; clear N3; have hq := N4.out.c0) | (go_at_call 62; refine (cnt91 (o := ⟨k, 0, [], [], ⟨(uintP s1).1, (countP intP (uintP s1).2).1, (countP textP (countP intP (uintP s1).2).2).1, []⟩⟩) hcb N4.out).mono ?_; rintro e w8 ⟨rfl, vw8, n_⟩; have N5 := Lib.hid n_; clear n_; clear N4; have hq := N5.out.c0))
   go_meet
   case rel => exact ⟨_, _, _, _, _, Lib.hid (by rw [HR2.out]; exact N5.out)⟩
  ·have t1 : (k == 1) = false := beq_eq_false_iff_ne.mpr h1
   have t2 : (k == 2) = false := beq_eq_false_iff_ne.mpr h2
   have t3 : (k == 3) = false := beq_eq_false_iff_ne.mpr h3
   have hR : R = (⟨k, 0, [], [], zero105⟩, failP 21 s1) := by
    rw [HR.out, opP]
    simp only [← HE.out.1, ← HE.out.2]
    rw [if_neg h1, if_neg h2, if_neg h3]
   have HR2 := Lib.hid hR
   clear hR HR h1
   (try clear h2)
   (try clear h3)
   go_wp2_with (first | (go_at_call 52; refine (cursor_Cursor_Fail.calls gc cb (atOf cb s1) s1.2 21 _ _ _ w0 _ N_.out.cur N_.out.bel (fail_cur 21 (by decide) s1).1).mono ?_; rintro e w5 ⟨rfl, i_, b_, k_⟩; have N2 := Lib.hid (N_.out.call (N_.out.good.fail (e := 21) (by decide)) i_ b_ k_); clear i_ b_ k_ N_))
   go_meet
   case rel => exact ⟨_, _, _, _, _, Lib.hid (by rw [HR2.out]; exact N2.out)⟩
 case rest =>
  clear N_
  obtain ⟨v2, v3, v5, v6, v7, N_⟩ := hcut
  obtain ⟨⟨x0, x1, x2, x3, x4, x5, x6, x7⟩, y0, y1, y2, y3, y4, y5, y6, y7⟩ := cells8 N_.out.box
  obtain ⟨⟨z0, z1, z2, z3, z4, z5, z6, z7⟩, q0, q1, q2, q3, q4, q5, q6, q7⟩ := cells8 N_.out.res
  obtain ⟨A2, n2, c2, rfl⟩ : ∃ A n c, v2 = .slice A n c := by obtain ⟨A, c, e⟩ := Kd.R_slice N_.out.r2; exact ⟨A, _, c, e⟩
  obtain ⟨A3, n3, c3, rfl⟩ : ∃ A n c, v3 = .slice A n c := by obtain ⟨A, c, e⟩ := Kd.R_slice N_.out.r3; exact ⟨A, _, c, e⟩
  obtain ⟨A5, n5, c5, rfl⟩ : ∃ A n c, v5 = .slice A n c := by obtain ⟨A, c, e⟩ := Kd.R_slice N_.out.r5; exact ⟨A, _, c, e⟩
  obtain ⟨A6, n6, c6, rfl⟩ : ∃ A n c, v6 = .slice A n c := by obtain ⟨A, c, e⟩ := Kd.R_slice N_.out.r6; exact ⟨A, _, c, e⟩
  obtain ⟨A7, n7, c7, rfl⟩ : ∃ A n c, v7 = .slice A n c := by obtain ⟨A, c, e⟩ := Kd.R_slice N_.out.r7; exact ⟨A, _, c, e⟩
  go_wp2_with fail
  refine bodyPost_ret (results_cell_row rfl _ _ gr 107 #[.int .i64 R.1.f0, .int .i64 R.1.f1, (.slice A2 n2 c2), (.slice A3 n3 c3), .int .i64 R.1.f4.f0, (.slice A5 n5 c5), (.slice A6 n6 c6), (.slice A7 n7 c7)] (0, 0) _ rfl (set107 _ _ _ _ _ _ _ _ N_.out.res) Try.underlying107 rfl (by kernel_rfl)) rfl ?_
  have hm : ∀ j, j ≠ gr → ((((((((wc.setCell ⟨gr, 0, none⟩ (.int .i64 R.1.f0)).setCell ⟨gr, 1, none⟩ (.int .i64 R.1.f1)).setCell ⟨gr, 2, none⟩ (.slice A2 n2 c2)).setCell ⟨gr, 3, none⟩ (.slice A3 n3 c3)).setCell ⟨gr, 4, none⟩ (.int .i64 R.1.f4.f0)).setCell ⟨gr, 5, none⟩ (.slice A5 n5 c5)).setCell ⟨gr, 6, none⟩ (.slice A6 n6 c6)).setCell ⟨gr, 7, none⟩ (.slice A7 n7 c7)).heap[j]? = wc.heap[j]? := fun j hj => by
   rw [Below.heap_setCell _ _ _ _ hj, Below.heap_setCell _ _ _ _ hj, Below.heap_setCell _ _ _ _ hj, Below.heap_setCell _ _ _ _ hj, Below.heap_setCell _ _ _ _ hj, Below.heap_setCell _ _ _ _ hj, Below.heap_setCell _ _ _ _ hj, Below.heap_setCell _ _ _ _ hj]
  exact ⟨_, _, _, _, _, rfl, k107_mkM _ _ _ _ (R_res N_.out.r2 N_.out.res (by decide) hm) (R_res N_.out.r3 N_.out.res (by decide) hm) (R_res N_.out.r5 N_.out.res (by decide) hm) (R_res N_.out.r6 N_.out.res (by decide) hm) (R_res N_.out.r7 N_.out.res (by decide) hm), (IsS122.far (IsS122.far (IsS122.far (IsS122.far (IsS122.far (IsS122.far (IsS122.far (IsS122.far N_.out.cur (IsS122.ne_blk N_.out.cur N_.out.res (by decide)) _) (IsS122.ne_blk N_.out.cur N_.out.res (by decide)) _) (IsS122.ne_blk N_.out.cur N_.out.res (by decide)) _) (IsS122.ne_blk N_.out.cur N_.out.res (by decide)) _) (IsS122.ne_blk N_.out.cur N_.out.res (by decide)) _) (IsS122.ne_blk N_.out.cur N_.out.res (by decide)) _) (IsS122.ne_blk N_.out.cur N_.out.res (by decide)) _) (IsS122.ne_blk N_.out.cur N_.out.res (by decide)) _), (below_set (below_set (below_set (below_set (below_set (below_set (below_set (below_set N_.out.bel (Nat.le_trans N_.out.le N_.out.gg)) (Nat.le_trans N_.out.le N_.out.gg)) (Nat.le_trans N_.out.le N_.out.gg)) (Nat.le_trans N_.out.le N_.out.gg)) (Nat.le_trans N_.out.le N_.out.gg)) (Nat.le_trans N_.out.le N_.out.gg)) (Nat.le_trans N_.out.le N_.out.gg)) (Nat.le_trans N_.out.le N_.out.gg)), (keep_far (keep_far (keep_far (keep_far (keep_far (keep_far (keep_far (keep_far N_.out.keep N_.out.gg _) N_.out.gg _) N_.out.gg _) N_.out.gg _) N_.out.gg _) N_.out.gg _) N_.out.gg _) N_.out.gg _)⟩
end Go.Proofs.Ytdjpelcdijpihaa.PrintF
