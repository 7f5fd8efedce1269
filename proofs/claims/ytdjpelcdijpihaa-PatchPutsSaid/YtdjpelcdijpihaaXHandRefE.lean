/- A part of the proof of the claim: what it uses of the text HandRefE. -/
import Derived.Test.YtdjpelcdijpihaaShort
import Derived.Test.YtdjpelcdijpihaaXHandRefD
namespace Go.Proofs.Ytdjpelcdijpihaa.PrintF
open Go.RowKit Go.Proofs.Ytdjpelcdijpihaa.Print Go.Proofs.YtdjpelcdijpihaaW.PrintWords Go.Proofs.YtdjpelcdijpihaaW.PrintLast Go.Lib
set_option linter.unusedVariables false
set_option linter.unusedSimpArgs false
def refOk (o : S107) : Bool :=
 if o.f0 = 1 then !noB o.f1 && (zeroN o.f4 && (decide (o.f2.length = 0) && decide (o.f3.length = 0)))
 else if o.f0 = 2 then !noB o.f1 && (zeroN o.f4 && ((refSets o.f2).2 && (refEdits o.f3).2))
 else if o.f0 = 3 then (refNode o.f4).2 && (decide (o.f1 = 0) && (decide (o.f2.length = 0) && decide (o.f3.length = 0)))
 else false
theorem d3 (n : Nat) : ((n : Int) == 0) = (!false && (true && (true && decide (n = 0)))) := by by_cases h : n = 0 <;> simp [h]
theorem d4 (n : Nat) : ((n : Int) == 0) = (true && (true && (true && decide (n = 0)))) := by by_cases h : n = 0 <;> simp [h]
def okOp (o : S107) : Prop := (∀ s ∈ o.f2, -9223372036854775808 ≤ s.f2 ∧ s.f2 ≤ 9223372036854775807) ∧ ∀ v ∈ o.f4.f1, -9223372036854775808 ≤ v ∧ v ≤ 9223372036854775807
theorem refSets_fst {l : List S127} (h : (refSets l).2 = true) : (refSets l).1 = strB (numB l.length ++ l.flatMap setB) := by
 unfold refSets at h ⊢
 split at h
 ·cases h
 ·rename_i h2; rw [if_neg h2]
theorem refEdits_fst {l : List S138} (h : (refEdits l).2 = true) : (refEdits l).1 = strB (numB l.length ++ l.flatMap editB) := by
 unfold refEdits at h ⊢
 split at h
 ·cases h
 ·rename_i h2; rw [if_neg h2]
theorem refNode_fst {x : S105} (h : (refNode x).2 = true) : (refNode x).1 = strB (nodeB x) := by
 unfold refNode at h ⊢
 split at h
 ·cases h
 ·rename_i h2; rw [if_neg h2]
theorem refSets_size (l : List S127) : (refSets l).1.size ≤ (numB l.length ++ l.flatMap setB).length := by
 unfold refSets
 split
 ·exact Nat.zero_le _
 ·rw [strB_size]; exact Nat.le_refl _
theorem refEdits_size (l : List S138) : (refEdits l).1.size ≤ (numB l.length ++ l.flatMap editB).length := by
 unfold refEdits
 split
 ·exact Nat.zero_le _
 ·rw [strB_size]; exact Nat.le_refl _
theorem refNode_size (x : S105) : (refNode x).1.size ≤ (nodeB x).length := by
 unfold refNode
 split
 ·exact Nat.zero_le _
 ·rw [strB_size]; exact Nat.le_refl _
set_option maxHeartbeats 8000000 in
set_option maxRecDepth 100000 in
theorem op1_f (bp nk : Int) (l2 : List S127) (l3 : List S138) (l5 : List Int) (l6 : List ByteArray) (l7 : List Int) (A2 A3 A5 A6 A7 : Option Addr) (c2 c3 c5 c6 c7 : Nat) (w : World) (hlen : (opB (⟨1, bp, l2, l3, ⟨nk, l5, l6, l7⟩⟩ : S107)).length ≤ 140737488355328) (hq : noB bp = true) (hz : zeroN (⟨nk, l5, l6, l7⟩ : S105) = false) :
  Calls Try.prog 61 #[.agg #[.int .i64 1, .int .i64 bp, .slice A2 l2.length c2, .slice A3 l3.length c3, .int .i64 nk, .slice A5 l5.length c5, .slice A6 l6.length c6, .slice A7 l7.length c7]] w fun e w' => ∃ s ok, e = .returned (.tuple #[.string s, .bool ok]) ∧ ok = refOk (⟨1, bp, l2, l3, ⟨nk, l5, l6, l7⟩⟩ : S107) ∧ (ok = true → s = strB (opB (⟨1, bp, l2, l3, ⟨nk, l5, l6, l7⟩⟩ : S107))) ∧ Below w.heap.size w w' := by
 skip
 have BX_ : Hid ((w.alloc (.cells #[.int .i64 1, .int .i64 bp, .slice A2 l2.length c2, .slice A3 l3.length c3, .int .i64 nk, .slice A5 l5.length c5, .slice A6 l6.length c6, .slice A7 l7.length c7] 107)).heap[w.heap.size]? = some (.cells #[.int .i64 1, .int .i64 bp, .slice A2 l2.length c2, .slice A3 l3.length c3, .int .i64 nk, .slice A5 l5.length c5, .slice A6 l6.length c6, .slice A7 l7.length c7] 107 (0, 0)) ∧ Below w.heap.size w (w.alloc (.cells #[.int .i64 1, .int .i64 bp, .slice A2 l2.length c2, .slice A3 l3.length c3, .int .i64 nk, .slice A5 l5.length c5, .slice A6 l6.length c6, .slice A7 l7.length c7] 107))) := Lib.hid ⟨heap_alloc_new w _, (Below.refl _ _).alloc (Nat.le_refl _) _⟩
 have xa : (9223372036854775807 < (strB (numB 1)).size + (strB (numB bp)).size) = False := eq_false (by rw [strB_size, strB_size]; have := numB_len 1; have := numB_len bp; omega)
 go_enter Try.func61, Try.ntmps61
 go_wp2_with (go_at_call 78; refine (same_calls (⟨nk, l5, l6, l7⟩ : S105) A5 A6 A7 c5 c6 c7 _).mono ?_; rintro e w1 ⟨rfl, hb1⟩; have BZ := boxT BX_ hb1; have z0 : w1.cell? ⟨w.heap.size, 0, none⟩ = some (.int .i64 1) := (blk_cell BZ.out.1 0).trans rfl)
 obtain ⟨g, hgX⟩ : ∃ g, g = w.heap.size := ⟨_, rfl⟩
 rw [← hgX]
 have BG : Hid (w1.heap[g]? = some (.cells #[.int .i64 1, .int .i64 bp, .slice A2 l2.length c2, .slice A3 l3.length c3, .int .i64 nk, .slice A5 l5.length c5, .slice A6 l6.length c6, .slice A7 l7.length c7] 107 (0, 0)) ∧ Below w.heap.size w w1) := by rw [hgX]; exact BZ
 clear BX_ BZ z0 hb1 hgX
 have BX_ := BG
 clear BG
 skip
 have BD := boxD BX_
 clear BX_
 have BX_ := BD
 clear BD
 refine wp_region_held_drew (S := fun w' => w'.cell? ⟨g, 1, none⟩ = some (.int .i64 bp) ∧ w'.cell? ⟨g, 2, none⟩ = some (.slice A2 l2.length c2) ∧ w'.cell? ⟨g, 3, none⟩ = some (.slice A3 l3.length c3)) (by kernel_rfl) ⟨(blk_cell BX_.out.1 1).trans rfl, (blk_cell BX_.out.1 2).trans rfl, (blk_cell BX_.out.1 3).trans rfl⟩ (fun hHeld => ?_)
 refine tkz 1 rfl ?_ (.inl ⟨by rfl, ?_⟩) ?_
 rotate_left 1
 ·intro w hSw
  obtain ⟨s0, s1, s2⟩ := hSw
  go_simp
  (try with_reducible rfl)
 (try simp only [Act.put, zq1, zq2, zq3, zq4, zq5, zq6])
 refine tkz 2 rfl ?_ (.inl ⟨by rfl, ?_⟩) ?_
 rotate_left 1
 ·intro w hSw
  obtain ⟨s0, s1, s2⟩ := hSw
  go_simp
  (try with_reducible rfl)
 (try simp only [Act.put, zq1, zq2, zq3, zq4, zq5, zq6])
 refine tkz 5 rfl ?_ (.inl ⟨by rfl, ?_⟩) ?_
 rotate_left 1
 ·intro w hSw
  obtain ⟨s0, s1, s2⟩ := hSw
  go_simp
  (try with_reducible rfl)
 (try simp only [Act.put, zq1, zq2, zq3, zq4, zq5, zq6])
 refine tkz 6 rfl ?_ (.inl ⟨by rfl, ?_⟩) ?_
 rotate_left 1
 ·intro w hSw
  obtain ⟨s0, s1, s2⟩ := hSw
  go_simp
  (try with_reducible rfl)
 (try simp only [Act.put, zq1, zq2, zq3, zq4, zq5, zq6])
 refine wpAnyH_ready (rs := [0]) (by kernel_rfl) (by simp) ?_
 refine AllReadyH.cons (o := _) rfl (fun K hK => ?_) AllReadyH.nil
 go_simp
 go_at_call 60
 refine (num_calls (1) _).mono ?_
 rintro e w_ ⟨rfl, hb_⟩
 have BZ := boxT BX_ hb_
 clear BX_ hb_
 have BX_ := BZ
 clear BZ
 refine hK.out _ _ ⟨(blk_cell BX_.out.1 1).trans rfl, (blk_cell BX_.out.1 2).trans rfl, (blk_cell BX_.out.1 3).trans rfl⟩ (fun hHeld => ?_)
 clear hK K
 (try simp only [Act.put, zq1, zq2, zq3, zq4, zq5, zq6])
 refine wpAnyH_ready (rs := [3]) (by kernel_rfl) (by simp) ?_
 refine AllReadyH.cons (o := _) rfl (fun K hK => ?_) AllReadyH.nil
 go_simp
 go_at_call 60
 refine (num_calls (bp) _).mono ?_
 rintro e w_ ⟨rfl, hb_⟩
 have BZ := boxT BX_ hb_
 clear BX_ hb_
 have BX_ := BZ
 clear BZ
 refine hK.out _ _ ⟨(blk_cell BX_.out.1 1).trans rfl, (blk_cell BX_.out.1 2).trans rfl, (blk_cell BX_.out.1 3).trans rfl⟩ (fun hHeld => ?_)
 clear hK K
 (try simp only [Act.put, zq1, zq2, zq3, zq4, zq5, zq6])
 refine tkz 4 rfl ?_ (.inl ⟨by rfl, ?_⟩) ?_
 rotate_left 1
 ·intro w hSw
  obtain ⟨s0, s1, s2⟩ := hSw
  go_simp
  (try with_reducible rfl)
 (try simp only [Act.put, zq1, zq2, zq3, zq4, zq5, zq6])
 refine wpAnyH_ready (rs := [7]) (by kernel_rfl) (by simp) ?_
 refine AllReadyH.cons (o := _) rfl (fun K hK => ?_) AllReadyH.nil
 go_simp
 go_at_call 79
 refine (fits_calls bp _).mono ?_
 rw [hq]
 rintro e w_ ⟨rfl, rfl⟩
 refine hK.out _ _ ⟨(blk_cell BX_.out.1 1).trans rfl, (blk_cell BX_.out.1 2).trans rfl, (blk_cell BX_.out.1 3).trans rfl⟩ (fun hHeld => ?_)
 clear hK K
 (try simp only [Act.put, zq1, zq2, zq3, zq4, zq5, zq6])
 refine tkz 8 rfl ?_ (.inl ⟨by rfl, ?_⟩) ?_
 rotate_left 1
 ·intro w hSw
  obtain ⟨s0, s1, s2⟩ := hSw
  go_simp
  (try with_reducible rfl)
 (try simp only [Act.put, zq1, zq2, zq3, zq4, zq5, zq6])
 refine tkz 9 rfl undef (.inr ⟨by rfl, rfl⟩) ?_
 (try simp only [Act.put, zq1, zq2, zq3, zq4, zq5, zq6])
 refine tkz 10 rfl ?_ (.inl ⟨by rfl, ?_⟩) ?_
 rotate_left 1
 ·intro w hSw
  obtain ⟨s0, s1, s2⟩ := hSw
  go_simp
  (try with_reducible rfl)
 (try simp only [Act.put, zq1, zq2, zq3, zq4, zq5, zq6])
 refine tkz 11 rfl ?_ (.inl ⟨by rfl, ?_⟩) ?_
 rotate_left 1
 ·intro w hSw
  obtain ⟨s0, s1, s2⟩ := hSw
  go_simp
  (try with_reducible rfl)
 (try simp only [Act.put, zq1, zq2, zq3, zq4, zq5, zq6])
 refine tkz 12 rfl undef (.inr ⟨by rfl, rfl⟩) ?_
 (try simp only [Act.put, zq1, zq2, zq3, zq4, zq5, zq6])
 refine tkz 13 rfl undef (.inr ⟨by rfl, rfl⟩) ?_
 (try simp only [Act.put, zq1, zq2, zq3, zq4, zq5, zq6])
 refine tkz 14 rfl undef (.inr ⟨by rfl, rfl⟩) ?_
 (try simp only [Act.put, zq1, zq2, zq3, zq4, zq5, zq6])
 refine tkz 15 rfl undef (.inr ⟨by rfl, rfl⟩) ?_
 (try simp only [Act.put, zq1, zq2, zq3, zq4, zq5, zq6])
 refine tkz 16 rfl ?_ (.inl ⟨by rfl, ?_⟩) ?_
 rotate_left 1
 ·intro w hSw
  obtain ⟨s0, s1, s2⟩ := hSw
  go_simp
  (try with_reducible rfl)
 (try simp only [Act.put, zq1, zq2, zq3, zq4, zq5, zq6])
 refine tkz 17 rfl ?_ (.inl ⟨by rfl, ?_⟩) ?_
 rotate_left 1
 ·intro w hSw
  obtain ⟨s0, s1, s2⟩ := hSw
  go_simp
  (try with_reducible rfl)
 (try simp only [Act.put, zq1, zq2, zq3, zq4, zq5, zq6])
 refine tkz 18 rfl undef (.inr ⟨by rfl, rfl⟩) ?_
 (try simp only [Act.put, zq1, zq2, zq3, zq4, zq5, zq6])
 refine tkz 19 rfl undef (.inr ⟨by rfl, rfl⟩) ?_
 (try simp only [Act.put, zq1, zq2, zq3, zq4, zq5, zq6])
 refine tkz 20 rfl undef (.inr ⟨by rfl, rfl⟩) ?_
 (try simp only [Act.put, zq1, zq2, zq3, zq4, zq5, zq6])
 refine tkz 21 rfl undef (.inr ⟨by rfl, rfl⟩) ?_
 (try simp only [Act.put, zq1, zq2, zq3, zq4, zq5, zq6])
 refine tkz 22 rfl ?_ (.inl ⟨by rfl, ?_⟩) ?_
 rotate_left 1
 ·intro w hSw
  obtain ⟨s0, s1, s2⟩ := hSw
  go_simp
  (try with_reducible rfl)
 (try simp only [Act.put, zq1, zq2, zq3, zq4, zq5, zq6])
 refine tkz 23 rfl ?_ (.inl ⟨by rfl, ?_⟩) ?_
 rotate_left 1
 ·intro w hSw
  obtain ⟨s0, s1, s2⟩ := hSw
  go_simp
  (try with_reducible rfl)
 (try simp only [Act.put, zq1, zq2, zq3, zq4, zq5, zq6])
 refine tkz 24 rfl ?_ (.inl ⟨by rfl, ?_⟩) ?_
 rotate_left 1
 ·intro w hSw
  obtain ⟨s0, s1, s2⟩ := hSw
  go_simp
  (try with_reducible rfl)
 (try simp only [Act.put, zq1, zq2, zq3, zq4, zq5, zq6])
 refine wpAnyH_done (by kernel_rfl) ?_ _
 go_wp2_with fail
 go_ret2
 exact ⟨_, _, rfl, by simp [refOk, hq], by intro h; simp at h, BX_.out.2⟩
set_option maxHeartbeats 8000000 in
set_option maxRecDepth 100000 in
theorem op1_g (bp nk : Int) (l2 : List S127) (l3 : List S138) (l5 : List Int) (l6 : List ByteArray) (l7 : List Int) (A2 A3 A5 A6 A7 : Option Addr) (c2 c3 c5 c6 c7 : Nat) (w : World) (hlen : (opB (⟨1, bp, l2, l3, ⟨nk, l5, l6, l7⟩⟩ : S107)).length ≤ 140737488355328) (hq : noB bp = true) (hz : zeroN (⟨nk, l5, l6, l7⟩ : S105) = true) :
  Calls Try.prog 61 #[.agg #[.int .i64 1, .int .i64 bp, .slice A2 l2.length c2, .slice A3 l3.length c3, .int .i64 nk, .slice A5 l5.length c5, .slice A6 l6.length c6, .slice A7 l7.length c7]] w fun e w' => ∃ s ok, e = .returned (.tuple #[.string s, .bool ok]) ∧ ok = refOk (⟨1, bp, l2, l3, ⟨nk, l5, l6, l7⟩⟩ : S107) ∧ (ok = true → s = strB (opB (⟨1, bp, l2, l3, ⟨nk, l5, l6, l7⟩⟩ : S107))) ∧ Below w.heap.size w w' := by
 skip
 have BX_ : Hid ((w.alloc (.cells #[.int .i64 1, .int .i64 bp, .slice A2 l2.length c2, .slice A3 l3.length c3, .int .i64 nk, .slice A5 l5.length c5, .slice A6 l6.length c6, .slice A7 l7.length c7] 107)).heap[w.heap.size]? = some (.cells #[.int .i64 1, .int .i64 bp, .slice A2 l2.length c2, .slice A3 l3.length c3, .int .i64 nk, .slice A5 l5.length c5, .slice A6 l6.length c6, .slice A7 l7.length c7] 107 (0, 0)) ∧ Below w.heap.size w (w.alloc (.cells #[.int .i64 1, .int .i64 bp, .slice A2 l2.length c2, .slice A3 l3.length c3, .int .i64 nk, .slice A5 l5.length c5, .slice A6 l6.length c6, .slice A7 l7.length c7] 107))) := Lib.hid ⟨heap_alloc_new w _, (Below.refl _ _).alloc (Nat.le_refl _) _⟩
 have xa : (9223372036854775807 < (strB (numB 1)).size + (strB (numB bp)).size) = False := eq_false (by rw [strB_size, strB_size]; have := numB_len 1; have := numB_len bp; omega)
 go_enter Try.func61, Try.ntmps61
 go_wp2_with (go_at_call 78; refine (same_calls (⟨nk, l5, l6, l7⟩ : S105) A5 A6 A7 c5 c6 c7 _).mono ?_; rintro e w1 ⟨rfl, hb1⟩; have BZ := boxT BX_ hb1; have z0 : w1.cell? ⟨w.heap.size, 0, none⟩ = some (.int .i64 1) := (blk_cell BZ.out.1 0).trans rfl)
 obtain ⟨g, hgX⟩ : ∃ g, g = w.heap.size := ⟨_, rfl⟩
 rw [← hgX]
 have BG : Hid (w1.heap[g]? = some (.cells #[.int .i64 1, .int .i64 bp, .slice A2 l2.length c2, .slice A3 l3.length c3, .int .i64 nk, .slice A5 l5.length c5, .slice A6 l6.length c6, .slice A7 l7.length c7] 107 (0, 0)) ∧ Below w.heap.size w w1) := by rw [hgX]; exact BZ
 clear BX_ BZ z0 hb1 hgX
 have BX_ := BG
 clear BG
 skip
 have BD := boxD BX_
 clear BX_
 have BX_ := BD
 clear BD
 refine wp_region_held_drew (S := fun w' => w'.cell? ⟨g, 1, none⟩ = some (.int .i64 bp) ∧ w'.cell? ⟨g, 2, none⟩ = some (.slice A2 l2.length c2) ∧ w'.cell? ⟨g, 3, none⟩ = some (.slice A3 l3.length c3)) (by kernel_rfl) ⟨(blk_cell BX_.out.1 1).trans rfl, (blk_cell BX_.out.1 2).trans rfl, (blk_cell BX_.out.1 3).trans rfl⟩ (fun hHeld => ?_)
 refine tkz 1 rfl ?_ (.inl ⟨by rfl, ?_⟩) ?_
 rotate_left 1
 ·intro w hSw
  obtain ⟨s0, s1, s2⟩ := hSw
  go_simp
  (try with_reducible rfl)
 (try simp only [Act.put, zq1, zq2, zq3, zq4, zq5, zq6])
 refine tkz 2 rfl ?_ (.inl ⟨by rfl, ?_⟩) ?_
 rotate_left 1
 ·intro w hSw
  obtain ⟨s0, s1, s2⟩ := hSw
  go_simp
  (try with_reducible rfl)
 (try simp only [Act.put, zq1, zq2, zq3, zq4, zq5, zq6])
 refine tkz 5 rfl ?_ (.inl ⟨by rfl, ?_⟩) ?_
 rotate_left 1
 ·intro w hSw
  obtain ⟨s0, s1, s2⟩ := hSw
  go_simp
  (try with_reducible rfl)
 (try simp only [Act.put, zq1, zq2, zq3, zq4, zq5, zq6])
 refine tkz 6 rfl ?_ (.inl ⟨by rfl, ?_⟩) ?_
 rotate_left 1
 ·intro w hSw
  obtain ⟨s0, s1, s2⟩ := hSw
  go_simp
  (try with_reducible rfl)
 (try simp only [Act.put, zq1, zq2, zq3, zq4, zq5, zq6])
 refine wpAnyH_ready (rs := [0]) (by kernel_rfl) (by simp) ?_
 refine AllReadyH.cons (o := _) rfl (fun K hK => ?_) AllReadyH.nil
 go_simp
 go_at_call 60
 refine (num_calls (1) _).mono ?_
 rintro e w_ ⟨rfl, hb_⟩
 have BZ := boxT BX_ hb_
 clear BX_ hb_
 have BX_ := BZ
 clear BZ
 refine hK.out _ _ ⟨(blk_cell BX_.out.1 1).trans rfl, (blk_cell BX_.out.1 2).trans rfl, (blk_cell BX_.out.1 3).trans rfl⟩ (fun hHeld => ?_)
 clear hK K
 (try simp only [Act.put, zq1, zq2, zq3, zq4, zq5, zq6])
 refine wpAnyH_ready (rs := [3]) (by kernel_rfl) (by simp) ?_
 refine AllReadyH.cons (o := _) rfl (fun K hK => ?_) AllReadyH.nil
 go_simp
 go_at_call 60
 refine (num_calls (bp) _).mono ?_
 rintro e w_ ⟨rfl, hb_⟩
 have BZ := boxT BX_ hb_
 clear BX_ hb_
 have BX_ := BZ
 clear BZ
 refine hK.out _ _ ⟨(blk_cell BX_.out.1 1).trans rfl, (blk_cell BX_.out.1 2).trans rfl, (blk_cell BX_.out.1 3).trans rfl⟩ (fun hHeld => ?_)
 clear hK K
 (try simp only [Act.put, zq1, zq2, zq3, zq4, zq5, zq6])
 refine tkz 4 rfl ?_ (.inl ⟨by rfl, ?_⟩) ?_
 rotate_left 1
 ·intro w hSw
  obtain ⟨s0, s1, s2⟩ := hSw
  go_simp
  (try with_reducible rfl)
 (try simp only [Act.put, zq1, zq2, zq3, zq4, zq5, zq6])
 refine wpAnyH_ready (rs := [7]) (by kernel_rfl) (by simp) ?_
 refine AllReadyH.cons (o := _) rfl (fun K hK => ?_) AllReadyH.nil
 go_simp
 go_at_call 79
 refine (fits_calls bp _).mono ?_
 rw [hq]
 rintro e w_ ⟨rfl, rfl⟩
 refine hK.out _ _ ⟨(blk_cell BX_.out.1 1).trans rfl, (blk_cell BX_.out.1 2).trans rfl, (blk_cell BX_.out.1 3).trans rfl⟩ (fun hHeld => ?_)
 clear hK K
 (try simp only [Act.put, zq1, zq2, zq3, zq4, zq5, zq6])
 refine tkz 8 rfl ?_ (.inl ⟨by rfl, ?_⟩) ?_
 rotate_left 1
 ·intro w hSw
  obtain ⟨s0, s1, s2⟩ := hSw
  go_simp
  (try with_reducible rfl)
 (try simp only [Act.put, zq1, zq2, zq3, zq4, zq5, zq6])
 refine tkz 9 rfl undef (.inr ⟨by rfl, rfl⟩) ?_
 (try simp only [Act.put, zq1, zq2, zq3, zq4, zq5, zq6])
 refine tkz 10 rfl ?_ (.inl ⟨by rfl, ?_⟩) ?_
 rotate_left 1
 ·intro w hSw
  obtain ⟨s0, s1, s2⟩ := hSw
  go_simp
  (try with_reducible rfl)
 (try simp only [Act.put, zq1, zq2, zq3, zq4, zq5, zq6])
 refine tkz 11 rfl ?_ (.inl ⟨by rfl, ?_⟩) ?_
 rotate_left 1
 ·intro w hSw
  obtain ⟨s0, s1, s2⟩ := hSw
  go_simp
  (try with_reducible rfl)
 (try simp only [Act.put, zq1, zq2, zq3, zq4, zq5, zq6])
 refine tkz 12 rfl undef (.inr ⟨by rfl, rfl⟩) ?_
 (try simp only [Act.put, zq1, zq2, zq3, zq4, zq5, zq6])
 refine tkz 13 rfl undef (.inr ⟨by rfl, rfl⟩) ?_
 (try simp only [Act.put, zq1, zq2, zq3, zq4, zq5, zq6])
 refine tkz 14 rfl undef (.inr ⟨by rfl, rfl⟩) ?_
 (try simp only [Act.put, zq1, zq2, zq3, zq4, zq5, zq6])
 refine tkz 15 rfl undef (.inr ⟨by rfl, rfl⟩) ?_
 (try simp only [Act.put, zq1, zq2, zq3, zq4, zq5, zq6])
 refine tkz 16 rfl ?_ (.inl ⟨by rfl, ?_⟩) ?_
 rotate_left 1
 ·intro w hSw
  obtain ⟨s0, s1, s2⟩ := hSw
  go_simp
  (try with_reducible rfl)
 (try simp only [Act.put, zq1, zq2, zq3, zq4, zq5, zq6])
 refine tkz 17 rfl ?_ (.inl ⟨by rfl, ?_⟩) ?_
 rotate_left 1
 ·intro w hSw
  obtain ⟨s0, s1, s2⟩ := hSw
  go_simp
  (try with_reducible rfl)
 (try simp only [Act.put, zq1, zq2, zq3, zq4, zq5, zq6])
 refine tkz 18 rfl undef (.inr ⟨by rfl, rfl⟩) ?_
 (try simp only [Act.put, zq1, zq2, zq3, zq4, zq5, zq6])
 refine tkz 19 rfl undef (.inr ⟨by rfl, rfl⟩) ?_
 (try simp only [Act.put, zq1, zq2, zq3, zq4, zq5, zq6])
 refine tkz 20 rfl undef (.inr ⟨by rfl, rfl⟩) ?_
 (try simp only [Act.put, zq1, zq2, zq3, zq4, zq5, zq6])
 refine tkz 21 rfl undef (.inr ⟨by rfl, rfl⟩) ?_
 (try simp only [Act.put, zq1, zq2, zq3, zq4, zq5, zq6])
 refine tkz 22 rfl ?_ (.inl ⟨by rfl, ?_⟩) ?_
 rotate_left 1
 ·intro w hSw
  obtain ⟨s0, s1, s2⟩ := hSw
  go_simp
  (try with_reducible rfl)
 (try simp only [Act.put, zq1, zq2, zq3, zq4, zq5, zq6])
 refine tkz 23 rfl ?_ (.inl ⟨by rfl, ?_⟩) ?_
 rotate_left 1
 ·intro w hSw
  obtain ⟨s0, s1, s2⟩ := hSw
  go_simp
  (try with_reducible rfl)
 (try simp only [Act.put, zq1, zq2, zq3, zq4, zq5, zq6])
 refine tkz 24 rfl ?_ (.inl ⟨by rfl, ?_⟩) ?_
 rotate_left 1
 ·intro w hSw
  obtain ⟨s0, s1, s2⟩ := hSw
  go_simp
  (try with_reducible rfl)
 (try simp only [Act.put, zq1, zq2, zq3, zq4, zq5, zq6])
 refine wpAnyH_done (by kernel_rfl) ?_ _
 go_wp2_with fail
 go_ret2
 exact ⟨_, _, rfl, by simp [refOk, hq], by intro h; simp at h, BX_.out.2⟩
set_option maxHeartbeats 8000000 in
set_option maxRecDepth 100000 in
theorem op1_z (bp nk : Int) (l2 : List S127) (l3 : List S138) (l5 : List Int) (l6 : List ByteArray) (l7 : List Int) (A2 A3 A5 A6 A7 : Option Addr) (c2 c3 c5 c6 c7 : Nat) (w : World) (hlen : (opB (⟨1, bp, l2, l3, ⟨nk, l5, l6, l7⟩⟩ : S107)).length ≤ 140737488355328) (hq : noB bp = false) (hz : zeroN (⟨nk, l5, l6, l7⟩ : S105) = false) :
  Calls Try.prog 61 #[.agg #[.int .i64 1, .int .i64 bp, .slice A2 l2.length c2, .slice A3 l3.length c3, .int .i64 nk, .slice A5 l5.length c5, .slice A6 l6.length c6, .slice A7 l7.length c7]] w fun e w' => ∃ s ok, e = .returned (.tuple #[.string s, .bool ok]) ∧ ok = refOk (⟨1, bp, l2, l3, ⟨nk, l5, l6, l7⟩⟩ : S107) ∧ (ok = true → s = strB (opB (⟨1, bp, l2, l3, ⟨nk, l5, l6, l7⟩⟩ : S107))) ∧ Below w.heap.size w w' := by
 skip
 have BX_ : Hid ((w.alloc (.cells #[.int .i64 1, .int .i64 bp, .slice A2 l2.length c2, .slice A3 l3.length c3, .int .i64 nk, .slice A5 l5.length c5, .slice A6 l6.length c6, .slice A7 l7.length c7] 107)).heap[w.heap.size]? = some (.cells #[.int .i64 1, .int .i64 bp, .slice A2 l2.length c2, .slice A3 l3.length c3, .int .i64 nk, .slice A5 l5.length c5, .slice A6 l6.length c6, .slice A7 l7.length c7] 107 (0, 0)) ∧ Below w.heap.size w (w.alloc (.cells #[.int .i64 1, .int .i64 bp, .slice A2 l2.length c2, .slice A3 l3.length c3, .int .i64 nk, .slice A5 l5.length c5, .slice A6 l6.length c6, .slice A7 l7.length c7] 107))) := Lib.hid ⟨heap_alloc_new w _, (Below.refl _ _).alloc (Nat.le_refl _) _⟩
 have xa : (9223372036854775807 < (strB (numB 1)).size + (strB (numB bp)).size) = False := eq_false (by rw [strB_size, strB_size]; have := numB_len 1; have := numB_len bp; omega)
 go_enter Try.func61, Try.ntmps61
 go_wp2_with (go_at_call 78; refine (same_calls (⟨nk, l5, l6, l7⟩ : S105) A5 A6 A7 c5 c6 c7 _).mono ?_; rintro e w1 ⟨rfl, hb1⟩; have BZ := boxT BX_ hb1; have z0 : w1.cell? ⟨w.heap.size, 0, none⟩ = some (.int .i64 1) := (blk_cell BZ.out.1 0).trans rfl)
 obtain ⟨g, hgX⟩ : ∃ g, g = w.heap.size := ⟨_, rfl⟩
 rw [← hgX]
 have BG : Hid (w1.heap[g]? = some (.cells #[.int .i64 1, .int .i64 bp, .slice A2 l2.length c2, .slice A3 l3.length c3, .int .i64 nk, .slice A5 l5.length c5, .slice A6 l6.length c6, .slice A7 l7.length c7] 107 (0, 0)) ∧ Below w.heap.size w w1) := by rw [hgX]; exact BZ
 clear BX_ BZ z0 hb1 hgX
 have BX_ := BG
 clear BG
 skip
 have BD := boxD BX_
 clear BX_
 have BX_ := BD
 clear BD
 refine wp_region_held_drew (S := fun w' => w'.cell? ⟨g, 1, none⟩ = some (.int .i64 bp) ∧ w'.cell? ⟨g, 2, none⟩ = some (.slice A2 l2.length c2) ∧ w'.cell? ⟨g, 3, none⟩ = some (.slice A3 l3.length c3)) (by kernel_rfl) ⟨(blk_cell BX_.out.1 1).trans rfl, (blk_cell BX_.out.1 2).trans rfl, (blk_cell BX_.out.1 3).trans rfl⟩ (fun hHeld => ?_)
 refine tkz 1 rfl ?_ (.inl ⟨by rfl, ?_⟩) ?_
 rotate_left 1
 ·intro w hSw
  obtain ⟨s0, s1, s2⟩ := hSw
  go_simp
  (try with_reducible rfl)
 (try simp only [Act.put, zq1, zq2, zq3, zq4, zq5, zq6])
 refine tkz 2 rfl ?_ (.inl ⟨by rfl, ?_⟩) ?_
 rotate_left 1
 ·intro w hSw
  obtain ⟨s0, s1, s2⟩ := hSw
  go_simp
  (try with_reducible rfl)
 (try simp only [Act.put, zq1, zq2, zq3, zq4, zq5, zq6])
 refine tkz 5 rfl ?_ (.inl ⟨by rfl, ?_⟩) ?_
 rotate_left 1
 ·intro w hSw
  obtain ⟨s0, s1, s2⟩ := hSw
  go_simp
  (try with_reducible rfl)
 (try simp only [Act.put, zq1, zq2, zq3, zq4, zq5, zq6])
 refine tkz 6 rfl ?_ (.inl ⟨by rfl, ?_⟩) ?_
 rotate_left 1
 ·intro w hSw
  obtain ⟨s0, s1, s2⟩ := hSw
  go_simp
  (try with_reducible rfl)
 (try simp only [Act.put, zq1, zq2, zq3, zq4, zq5, zq6])
 refine wpAnyH_ready (rs := [0]) (by kernel_rfl) (by simp) ?_
 refine AllReadyH.cons (o := _) rfl (fun K hK => ?_) AllReadyH.nil
 go_simp
 go_at_call 60
 refine (num_calls (1) _).mono ?_
 rintro e w_ ⟨rfl, hb_⟩
 have BZ := boxT BX_ hb_
 clear BX_ hb_
 have BX_ := BZ
 clear BZ
 refine hK.out _ _ ⟨(blk_cell BX_.out.1 1).trans rfl, (blk_cell BX_.out.1 2).trans rfl, (blk_cell BX_.out.1 3).trans rfl⟩ (fun hHeld => ?_)
 clear hK K
 (try simp only [Act.put, zq1, zq2, zq3, zq4, zq5, zq6])
 refine wpAnyH_ready (rs := [3]) (by kernel_rfl) (by simp) ?_
 refine AllReadyH.cons (o := _) rfl (fun K hK => ?_) AllReadyH.nil
 go_simp
 go_at_call 60
 refine (num_calls (bp) _).mono ?_
 rintro e w_ ⟨rfl, hb_⟩
 have BZ := boxT BX_ hb_
 clear BX_ hb_
 have BX_ := BZ
 clear BZ
 refine hK.out _ _ ⟨(blk_cell BX_.out.1 1).trans rfl, (blk_cell BX_.out.1 2).trans rfl, (blk_cell BX_.out.1 3).trans rfl⟩ (fun hHeld => ?_)
 clear hK K
 (try simp only [Act.put, zq1, zq2, zq3, zq4, zq5, zq6])
 refine tkz 4 rfl ?_ (.inl ⟨by rfl, ?_⟩) ?_
 rotate_left 1
 ·intro w hSw
  obtain ⟨s0, s1, s2⟩ := hSw
  go_simp
  (try with_reducible rfl)
 (try simp only [Act.put, zq1, zq2, zq3, zq4, zq5, zq6])
 refine wpAnyH_ready (rs := [7]) (by kernel_rfl) (by simp) ?_
 refine AllReadyH.cons (o := _) rfl (fun K hK => ?_) AllReadyH.nil
 go_simp
 go_at_call 79
 refine (fits_calls bp _).mono ?_
 rw [hq]
 rintro e w_ ⟨rfl, rfl⟩
 refine hK.out _ _ ⟨(blk_cell BX_.out.1 1).trans rfl, (blk_cell BX_.out.1 2).trans rfl, (blk_cell BX_.out.1 3).trans rfl⟩ (fun hHeld => ?_)
 clear hK K
 (try simp only [Act.put, zq1, zq2, zq3, zq4, zq5, zq6])
 refine tkz 8 rfl ?_ (.inl ⟨by rfl, ?_⟩) ?_
 rotate_left 1
 ·intro w hSw
  obtain ⟨s0, s1, s2⟩ := hSw
  go_simp
  (try with_reducible rfl)
 (try simp only [Act.put, zq1, zq2, zq3, zq4, zq5, zq6])
 refine tkz 9 rfl ?_ (.inl ⟨by rfl, ?_⟩) ?_
 rotate_left 1
 ·intro w hSw
  obtain ⟨s0, s1, s2⟩ := hSw
  go_simp
  (try with_reducible rfl)
 (try simp only [Act.put, zq1, zq2, zq3, zq4, zq5, zq6])
 refine tkz 10 rfl ?_ (.inl ⟨by rfl, ?_⟩) ?_
 rotate_left 1
 ·intro w hSw
  obtain ⟨s0, s1, s2⟩ := hSw
  go_simp
  (try with_reducible rfl)
 (try simp only [Act.put, zq1, zq2, zq3, zq4, zq5, zq6])
 refine tkz 11 rfl ?_ (.inl ⟨by rfl, ?_⟩) ?_
 rotate_left 1
 ·intro w hSw
  obtain ⟨s0, s1, s2⟩ := hSw
  go_simp
  (try with_reducible rfl)
 (try simp only [Act.put, zq1, zq2, zq3, zq4, zq5, zq6])
 refine tkz 12 rfl undef (.inr ⟨by rfl, rfl⟩) ?_
 (try simp only [Act.put, zq1, zq2, zq3, zq4, zq5, zq6])
 refine tkz 13 rfl undef (.inr ⟨by rfl, rfl⟩) ?_
 (try simp only [Act.put, zq1, zq2, zq3, zq4, zq5, zq6])
 refine tkz 14 rfl undef (.inr ⟨by rfl, rfl⟩) ?_
 (try simp only [Act.put, zq1, zq2, zq3, zq4, zq5, zq6])
 refine tkz 15 rfl undef (.inr ⟨by rfl, rfl⟩) ?_
 (try simp only [Act.put, zq1, zq2, zq3, zq4, zq5, zq6])
 refine tkz 16 rfl ?_ (.inl ⟨by rfl, ?_⟩) ?_
 rotate_left 1
 ·intro w hSw
  obtain ⟨s0, s1, s2⟩ := hSw
  go_simp
  (try with_reducible rfl)
 (try simp only [Act.put, zq1, zq2, zq3, zq4, zq5, zq6])
 refine tkz 17 rfl ?_ (.inl ⟨by rfl, ?_⟩) ?_
 rotate_left 1
 ·intro w hSw
  obtain ⟨s0, s1, s2⟩ := hSw
  go_simp
  (try with_reducible rfl)
 (try simp only [Act.put, zq1, zq2, zq3, zq4, zq5, zq6])
 refine tkz 18 rfl undef (.inr ⟨by rfl, rfl⟩) ?_
 (try simp only [Act.put, zq1, zq2, zq3, zq4, zq5, zq6])
 refine tkz 19 rfl undef (.inr ⟨by rfl, rfl⟩) ?_
 (try simp only [Act.put, zq1, zq2, zq3, zq4, zq5, zq6])
 refine tkz 20 rfl undef (.inr ⟨by rfl, rfl⟩) ?_
 (try simp only [Act.put, zq1, zq2, zq3, zq4, zq5, zq6])
 refine tkz 21 rfl undef (.inr ⟨by rfl, rfl⟩) ?_
 (try simp only [Act.put, zq1, zq2, zq3, zq4, zq5, zq6])
 refine tkz 22 rfl ?_ (.inl ⟨by rfl, ?_⟩) ?_
 rotate_left 1
 ·intro w hSw
  obtain ⟨s0, s1, s2⟩ := hSw
  go_simp
  (try with_reducible rfl)
 (try simp only [Act.put, zq1, zq2, zq3, zq4, zq5, zq6])
 refine tkz 23 rfl ?_ (.inl ⟨by rfl, ?_⟩) ?_
 rotate_left 1
 ·intro w hSw
  obtain ⟨s0, s1, s2⟩ := hSw
  go_simp
  (try with_reducible rfl)
 (try simp only [Act.put, zq1, zq2, zq3, zq4, zq5, zq6])
 refine tkz 24 rfl ?_ (.inl ⟨by rfl, ?_⟩) ?_
 rotate_left 1
 ·intro w hSw
  obtain ⟨s0, s1, s2⟩ := hSw
  go_simp
  (try with_reducible rfl)
 (try simp only [Act.put, zq1, zq2, zq3, zq4, zq5, zq6])
 refine wpAnyH_done (by kernel_rfl) ?_ _
 go_wp2_with fail
 go_ret2
 exact ⟨_, _, rfl, by simp [refOk, hq, hz], by intro h; simp at h, BX_.out.2⟩
set_option maxHeartbeats 8000000 in
set_option maxRecDepth 100000 in
theorem op1_s (bp nk : Int) (l2 : List S127) (l3 : List S138) (l5 : List Int) (l6 : List ByteArray) (l7 : List Int) (A2 A3 A5 A6 A7 : Option Addr) (c2 c3 c5 c6 c7 : Nat) (w : World) (hlen : (opB (⟨1, bp, l2, l3, ⟨nk, l5, l6, l7⟩⟩ : S107)).length ≤ 140737488355328) (hq : noB bp = false) (hz : zeroN (⟨nk, l5, l6, l7⟩ : S105) = true) (hs : l2.length ≠ 0) :
  Calls Try.prog 61 #[.agg #[.int .i64 1, .int .i64 bp, .slice A2 l2.length c2, .slice A3 l3.length c3, .int .i64 nk, .slice A5 l5.length c5, .slice A6 l6.length c6, .slice A7 l7.length c7]] w fun e w' => ∃ s ok, e = .returned (.tuple #[.string s, .bool ok]) ∧ ok = refOk (⟨1, bp, l2, l3, ⟨nk, l5, l6, l7⟩⟩ : S107) ∧ (ok = true → s = strB (opB (⟨1, bp, l2, l3, ⟨nk, l5, l6, l7⟩⟩ : S107))) ∧ Below w.heap.size w w' := by
 have t2 : ((l2.length : Int) == 0) = false := beq_eq_false_iff_ne.mpr (by omega)
 skip
 have BX_ : Hid ((w.alloc (.cells #[.int .i64 1, .int .i64 bp, .slice A2 l2.length c2, .slice A3 l3.length c3, .int .i64 nk, .slice A5 l5.length c5, .slice A6 l6.length c6, .slice A7 l7.length c7] 107)).heap[w.heap.size]? = some (.cells #[.int .i64 1, .int .i64 bp, .slice A2 l2.length c2, .slice A3 l3.length c3, .int .i64 nk, .slice A5 l5.length c5, .slice A6 l6.length c6, .slice A7 l7.length c7] 107 (0, 0)) ∧ Below w.heap.size w (w.alloc (.cells #[.int .i64 1, .int .i64 bp, .slice A2 l2.length c2, .slice A3 l3.length c3, .int .i64 nk, .slice A5 l5.length c5, .slice A6 l6.length c6, .slice A7 l7.length c7] 107))) := Lib.hid ⟨heap_alloc_new w _, (Below.refl _ _).alloc (Nat.le_refl _) _⟩
 have xa : (9223372036854775807 < (strB (numB 1)).size + (strB (numB bp)).size) = False := eq_false (by rw [strB_size, strB_size]; have := numB_len 1; have := numB_len bp; omega)
 go_enter Try.func61, Try.ntmps61
 go_wp2_with (go_at_call 78; refine (same_calls (⟨nk, l5, l6, l7⟩ : S105) A5 A6 A7 c5 c6 c7 _).mono ?_; rintro e w1 ⟨rfl, hb1⟩; have BZ := boxT BX_ hb1; have z0 : w1.cell? ⟨w.heap.size, 0, none⟩ = some (.int .i64 1) := (blk_cell BZ.out.1 0).trans rfl)
 obtain ⟨g, hgX⟩ : ∃ g, g = w.heap.size := ⟨_, rfl⟩
 rw [← hgX]
 have BG : Hid (w1.heap[g]? = some (.cells #[.int .i64 1, .int .i64 bp, .slice A2 l2.length c2, .slice A3 l3.length c3, .int .i64 nk, .slice A5 l5.length c5, .slice A6 l6.length c6, .slice A7 l7.length c7] 107 (0, 0)) ∧ Below w.heap.size w w1) := by rw [hgX]; exact BZ
 clear BX_ BZ z0 hb1 hgX
 have BX_ := BG
 clear BG
 skip
 have BD := boxD BX_
 clear BX_
 have BX_ := BD
 clear BD
 refine wp_region_held_drew (S := fun w' => w'.cell? ⟨g, 1, none⟩ = some (.int .i64 bp) ∧ w'.cell? ⟨g, 2, none⟩ = some (.slice A2 l2.length c2) ∧ w'.cell? ⟨g, 3, none⟩ = some (.slice A3 l3.length c3)) (by kernel_rfl) ⟨(blk_cell BX_.out.1 1).trans rfl, (blk_cell BX_.out.1 2).trans rfl, (blk_cell BX_.out.1 3).trans rfl⟩ (fun hHeld => ?_)
 refine tkz 1 rfl ?_ (.inl ⟨by rfl, ?_⟩) ?_
 rotate_left 1
 ·intro w hSw
  obtain ⟨s0, s1, s2⟩ := hSw
  go_simp
  (try with_reducible rfl)
 (try simp only [Act.put, zq1, zq2, zq3, zq4, zq5, zq6])
 refine tkz 2 rfl ?_ (.inl ⟨by rfl, ?_⟩) ?_
 rotate_left 1
 ·intro w hSw
  obtain ⟨s0, s1, s2⟩ := hSw
  go_simp
  (try with_reducible rfl)
 (try simp only [Act.put, zq1, zq2, zq3, zq4, zq5, zq6])
 refine tkz 5 rfl ?_ (.inl ⟨by rfl, ?_⟩) ?_
 rotate_left 1
 ·intro w hSw
  obtain ⟨s0, s1, s2⟩ := hSw
  go_simp
  (try with_reducible rfl)
 (try simp only [Act.put, zq1, zq2, zq3, zq4, zq5, zq6])
 refine tkz 6 rfl ?_ (.inl ⟨by rfl, ?_⟩) ?_
 rotate_left 1
 ·intro w hSw
  obtain ⟨s0, s1, s2⟩ := hSw
  go_simp
  (try with_reducible rfl)
 (try simp only [Act.put, zq1, zq2, zq3, zq4, zq5, zq6])
 refine wpAnyH_ready (rs := [0]) (by kernel_rfl) (by simp) ?_
 refine AllReadyH.cons (o := _) rfl (fun K hK => ?_) AllReadyH.nil
 go_simp
 go_at_call 60
 refine (num_calls (1) _).mono ?_
 rintro e w_ ⟨rfl, hb_⟩
 have BZ := boxT BX_ hb_
 clear BX_ hb_
 have BX_ := BZ
 clear BZ
 refine hK.out _ _ ⟨(blk_cell BX_.out.1 1).trans rfl, (blk_cell BX_.out.1 2).trans rfl, (blk_cell BX_.out.1 3).trans rfl⟩ (fun hHeld => ?_)
 clear hK K
 (try simp only [Act.put, zq1, zq2, zq3, zq4, zq5, zq6])
 refine wpAnyH_ready (rs := [3]) (by kernel_rfl) (by simp) ?_
 refine AllReadyH.cons (o := _) rfl (fun K hK => ?_) AllReadyH.nil
 go_simp
 go_at_call 60
 refine (num_calls (bp) _).mono ?_
 rintro e w_ ⟨rfl, hb_⟩
 have BZ := boxT BX_ hb_
 clear BX_ hb_
 have BX_ := BZ
 clear BZ
 refine hK.out _ _ ⟨(blk_cell BX_.out.1 1).trans rfl, (blk_cell BX_.out.1 2).trans rfl, (blk_cell BX_.out.1 3).trans rfl⟩ (fun hHeld => ?_)
 clear hK K
 (try simp only [Act.put, zq1, zq2, zq3, zq4, zq5, zq6])
 refine tkz 4 rfl ?_ (.inl ⟨by rfl, ?_⟩) ?_
 rotate_left 1
 ·intro w hSw
  obtain ⟨s0, s1, s2⟩ := hSw
  go_simp
  (try with_reducible rfl)
 (try simp only [Act.put, zq1, zq2, zq3, zq4, zq5, zq6])
 refine wpAnyH_ready (rs := [7]) (by kernel_rfl) (by simp) ?_
 refine AllReadyH.cons (o := _) rfl (fun K hK => ?_) AllReadyH.nil
 go_simp
 go_at_call 79
 refine (fits_calls bp _).mono ?_
 rw [hq]
 rintro e w_ ⟨rfl, rfl⟩
 refine hK.out _ _ ⟨(blk_cell BX_.out.1 1).trans rfl, (blk_cell BX_.out.1 2).trans rfl, (blk_cell BX_.out.1 3).trans rfl⟩ (fun hHeld => ?_)
 clear hK K
 (try simp only [Act.put, zq1, zq2, zq3, zq4, zq5, zq6])
 refine tkz 8 rfl ?_ (.inl ⟨by rfl, ?_⟩) ?_
 rotate_left 1
 ·intro w hSw
  obtain ⟨s0, s1, s2⟩ := hSw
  go_simp
  (try with_reducible rfl)
 (try simp only [Act.put, zq1, zq2, zq3, zq4, zq5, zq6])
 refine tkz 9 rfl ?_ (.inl ⟨by rfl, ?_⟩) ?_
 rotate_left 1
 ·intro w hSw
  obtain ⟨s0, s1, s2⟩ := hSw
  go_simp
  (try with_reducible rfl)
 (try simp only [Act.put, zq1, zq2, zq3, zq4, zq5, zq6])
 refine tkz 10 rfl ?_ (.inl ⟨by rfl, ?_⟩) ?_
 rotate_left 1
 ·intro w hSw
  obtain ⟨s0, s1, s2⟩ := hSw
  go_simp
  (try with_reducible rfl)
 (try simp only [Act.put, zq1, zq2, zq3, zq4, zq5, zq6])
 refine tkz 11 rfl ?_ (.inl ⟨by rfl, ?_⟩) ?_
 rotate_left 1
 ·intro w hSw
  obtain ⟨s0, s1, s2⟩ := hSw
  go_simp
  (try with_reducible rfl)
 (try simp only [Act.put, zq1, zq2, zq3, zq4, zq5, zq6])
 refine tkz 12 rfl ?_ (.inl ⟨by rfl, ?_⟩) ?_
 rotate_left 1
 ·intro w hSw
  obtain ⟨s0, s1, s2⟩ := hSw
  go_simp
  (try with_reducible rfl)
 (try simp only [Act.put, zq1, zq2, zq3, zq4, zq5, zq6])
 refine tkz 13 rfl ?_ (.inl ⟨by rfl, ?_⟩) ?_
 rotate_left 1
 ·intro w hSw
  obtain ⟨s0, s1, s2⟩ := hSw
  go_simp
  (try with_reducible rfl)
 (try simp only [Act.put, zq1, zq2, zq3, zq4, zq5, zq6])
 refine tkz 14 rfl ?_ (.inl ⟨by rfl, ?_⟩) ?_
 rotate_left 1
 ·intro w hSw
  obtain ⟨s0, s1, s2⟩ := hSw
  go_simp
  (try with_reducible rfl)
 (try simp only [Act.put, zq1, zq2, zq3, zq4, zq5, zq6])
 refine tkz 15 rfl ?_ (.inl ⟨by rfl, ?_⟩) ?_
 rotate_left 1
 ·intro w hSw
  obtain ⟨s0, s1, s2⟩ := hSw
  go_simp
  (try with_reducible rfl)
 (try simp only [Act.put, zq1, zq2, zq3, zq4, zq5, zq6])
 refine tkz 16 rfl ?_ (.inl ⟨by rfl, ?_⟩) ?_
 rotate_left 1
 ·intro w hSw
  obtain ⟨s0, s1, s2⟩ := hSw
  go_simp
  (try with_reducible rfl)
 (try simp only [Act.put, zq1, zq2, zq3, zq4, zq5, zq6])
 refine tkz 17 rfl ?_ (.inl ⟨by rfl, ?_⟩) ?_
 rotate_left 1
 ·intro w hSw
  obtain ⟨s0, s1, s2⟩ := hSw
  go_simp
  (try with_reducible rfl)
 (try simp only [Act.put, zq1, zq2, zq3, zq4, zq5, zq6])
 refine tkz 18 rfl undef (.inr ⟨by rfl, rfl⟩) ?_
 (try simp only [Act.put, zq1, zq2, zq3, zq4, zq5, zq6])
 refine tkz 19 rfl undef (.inr ⟨by rfl, rfl⟩) ?_
 (try simp only [Act.put, zq1, zq2, zq3, zq4, zq5, zq6])
 refine tkz 20 rfl undef (.inr ⟨by rfl, rfl⟩) ?_
 (try simp only [Act.put, zq1, zq2, zq3, zq4, zq5, zq6])
 refine tkz 21 rfl undef (.inr ⟨by rfl, rfl⟩) ?_
 (try simp only [Act.put, zq1, zq2, zq3, zq4, zq5, zq6])
 refine tkz 22 rfl ?_ (.inl ⟨by rfl, ?_⟩) ?_
 rotate_left 1
 ·intro w hSw
  obtain ⟨s0, s1, s2⟩ := hSw
  go_simp
  (try with_reducible rfl)
 (try simp only [Act.put, zq1, zq2, zq3, zq4, zq5, zq6])
 refine tkz 23 rfl ?_ (.inl ⟨by rfl, ?_⟩) ?_
 rotate_left 1
 ·intro w hSw
  obtain ⟨s0, s1, s2⟩ := hSw
  go_simp
  (try with_reducible rfl)
 (try simp only [Act.put, zq1, zq2, zq3, zq4, zq5, zq6])
 refine tkz 24 rfl ?_ (.inl ⟨by rfl, ?_⟩) ?_
 rotate_left 1
 ·intro w hSw
  obtain ⟨s0, s1, s2⟩ := hSw
  go_simp
  (try with_reducible rfl)
 (try simp only [Act.put, zq1, zq2, zq3, zq4, zq5, zq6])
 refine wpAnyH_done (by kernel_rfl) ?_ _
 go_wp2_with fail
 go_ret2
 exact ⟨_, _, rfl, by unfold refOk; simp only [hq, hz]; rw [decide_eq_false hs]; rfl, by intro h; simp at h, BX_.out.2⟩
set_option maxHeartbeats 8000000 in
set_option maxRecDepth 100000 in
theorem op1_t (bp nk : Int) (l2 : List S127) (l3 : List S138) (l5 : List Int) (l6 : List ByteArray) (l7 : List Int) (A2 A3 A5 A6 A7 : Option Addr) (c2 c3 c5 c6 c7 : Nat) (w : World) (hlen : (opB (⟨1, bp, l2, l3, ⟨nk, l5, l6, l7⟩⟩ : S107)).length ≤ 140737488355328) (hq : noB bp = false) (hz : zeroN (⟨nk, l5, l6, l7⟩ : S105) = true) (hs : l2.length = 0) :
  Calls Try.prog 61 #[.agg #[.int .i64 1, .int .i64 bp, .slice A2 l2.length c2, .slice A3 l3.length c3, .int .i64 nk, .slice A5 l5.length c5, .slice A6 l6.length c6, .slice A7 l7.length c7]] w fun e w' => ∃ s ok, e = .returned (.tuple #[.string s, .bool ok]) ∧ ok = refOk (⟨1, bp, l2, l3, ⟨nk, l5, l6, l7⟩⟩ : S107) ∧ (ok = true → s = strB (opB (⟨1, bp, l2, l3, ⟨nk, l5, l6, l7⟩⟩ : S107))) ∧ Below w.heap.size w w' := by
 have t2 : ((l2.length : Int) == 0) = true := beq_iff_eq.mpr (by omega)
 have HS := Lib.hid hs
 clear hs
 skip
 have BX_ : Hid ((w.alloc (.cells #[.int .i64 1, .int .i64 bp, .slice A2 l2.length c2, .slice A3 l3.length c3, .int .i64 nk, .slice A5 l5.length c5, .slice A6 l6.length c6, .slice A7 l7.length c7] 107)).heap[w.heap.size]? = some (.cells #[.int .i64 1, .int .i64 bp, .slice A2 l2.length c2, .slice A3 l3.length c3, .int .i64 nk, .slice A5 l5.length c5, .slice A6 l6.length c6, .slice A7 l7.length c7] 107 (0, 0)) ∧ Below w.heap.size w (w.alloc (.cells #[.int .i64 1, .int .i64 bp, .slice A2 l2.length c2, .slice A3 l3.length c3, .int .i64 nk, .slice A5 l5.length c5, .slice A6 l6.length c6, .slice A7 l7.length c7] 107))) := Lib.hid ⟨heap_alloc_new w _, (Below.refl _ _).alloc (Nat.le_refl _) _⟩
 have xa : (9223372036854775807 < (strB (numB 1)).size + (strB (numB bp)).size) = False := eq_false (by rw [strB_size, strB_size]; have := numB_len 1; have := numB_len bp; omega)
 go_enter Try.func61, Try.ntmps61
 go_wp2_with (go_at_call 78; refine (same_calls (⟨nk, l5, l6, l7⟩ : S105) A5 A6 A7 c5 c6 c7 _).mono ?_; rintro e w1 ⟨rfl, hb1⟩; have BZ := boxT BX_ hb1; have z0 : w1.cell? ⟨w.heap.size, 0, none⟩ = some (.int .i64 1) := (blk_cell BZ.out.1 0).trans rfl)
 obtain ⟨g, hgX⟩ : ∃ g, g = w.heap.size := ⟨_, rfl⟩
 rw [← hgX]
 have BG : Hid (w1.heap[g]? = some (.cells #[.int .i64 1, .int .i64 bp, .slice A2 l2.length c2, .slice A3 l3.length c3, .int .i64 nk, .slice A5 l5.length c5, .slice A6 l6.length c6, .slice A7 l7.length c7] 107 (0, 0)) ∧ Below w.heap.size w w1) := by rw [hgX]; exact BZ
 clear BX_ BZ z0 hb1 hgX
 have BX_ := BG
 clear BG
 skip
 have BD := boxD BX_
 clear BX_
 have BX_ := BD
 clear BD
 refine wp_region_held_drew (S := fun w' => w'.cell? ⟨g, 1, none⟩ = some (.int .i64 bp) ∧ w'.cell? ⟨g, 2, none⟩ = some (.slice A2 l2.length c2) ∧ w'.cell? ⟨g, 3, none⟩ = some (.slice A3 l3.length c3)) (by kernel_rfl) ⟨(blk_cell BX_.out.1 1).trans rfl, (blk_cell BX_.out.1 2).trans rfl, (blk_cell BX_.out.1 3).trans rfl⟩ (fun hHeld => ?_)
 refine tkz 1 rfl ?_ (.inl ⟨by rfl, ?_⟩) ?_
 rotate_left 1
 ·intro w hSw
  obtain ⟨s0, s1, s2⟩ := hSw
  go_simp
  (try with_reducible rfl)
 (try simp only [Act.put, zq1, zq2, zq3, zq4, zq5, zq6])
 refine tkz 2 rfl ?_ (.inl ⟨by rfl, ?_⟩) ?_
 rotate_left 1
 ·intro w hSw
  obtain ⟨s0, s1, s2⟩ := hSw
  go_simp
  (try with_reducible rfl)
 (try simp only [Act.put, zq1, zq2, zq3, zq4, zq5, zq6])
 refine tkz 5 rfl ?_ (.inl ⟨by rfl, ?_⟩) ?_
 rotate_left 1
 ·intro w hSw
  obtain ⟨s0, s1, s2⟩ := hSw
  go_simp
  (try with_reducible rfl)
 (try simp only [Act.put, zq1, zq2, zq3, zq4, zq5, zq6])
 refine tkz 6 rfl ?_ (.inl ⟨by rfl, ?_⟩) ?_
 rotate_left 1
 ·intro w hSw
  obtain ⟨s0, s1, s2⟩ := hSw
  go_simp
  (try with_reducible rfl)
 (try simp only [Act.put, zq1, zq2, zq3, zq4, zq5, zq6])
 refine wpAnyH_ready (rs := [0]) (by kernel_rfl) (by simp) ?_
 refine AllReadyH.cons (o := _) rfl (fun K hK => ?_) AllReadyH.nil
 go_simp
 go_at_call 60
 refine (num_calls (1) _).mono ?_
 rintro e w_ ⟨rfl, hb_⟩
 have BZ := boxT BX_ hb_
 clear BX_ hb_
 have BX_ := BZ
 clear BZ
 refine hK.out _ _ ⟨(blk_cell BX_.out.1 1).trans rfl, (blk_cell BX_.out.1 2).trans rfl, (blk_cell BX_.out.1 3).trans rfl⟩ (fun hHeld => ?_)
 clear hK K
 (try simp only [Act.put, zq1, zq2, zq3, zq4, zq5, zq6])
 refine wpAnyH_ready (rs := [3]) (by kernel_rfl) (by simp) ?_
 refine AllReadyH.cons (o := _) rfl (fun K hK => ?_) AllReadyH.nil
 go_simp
 go_at_call 60
 refine (num_calls (bp) _).mono ?_
 rintro e w_ ⟨rfl, hb_⟩
 have BZ := boxT BX_ hb_
 clear BX_ hb_
 have BX_ := BZ
 clear BZ
 refine hK.out _ _ ⟨(blk_cell BX_.out.1 1).trans rfl, (blk_cell BX_.out.1 2).trans rfl, (blk_cell BX_.out.1 3).trans rfl⟩ (fun hHeld => ?_)
 clear hK K
 (try simp only [Act.put, zq1, zq2, zq3, zq4, zq5, zq6])
 refine tkz 4 rfl ?_ (.inl ⟨by rfl, ?_⟩) ?_
 rotate_left 1
 ·intro w hSw
  obtain ⟨s0, s1, s2⟩ := hSw
  go_simp
  (try with_reducible rfl)
 (try simp only [Act.put, zq1, zq2, zq3, zq4, zq5, zq6])
 refine wpAnyH_ready (rs := [7]) (by kernel_rfl) (by simp) ?_
 refine AllReadyH.cons (o := _) rfl (fun K hK => ?_) AllReadyH.nil
 go_simp
 go_at_call 79
 refine (fits_calls bp _).mono ?_
 rw [hq]
 rintro e w_ ⟨rfl, rfl⟩
 refine hK.out _ _ ⟨(blk_cell BX_.out.1 1).trans rfl, (blk_cell BX_.out.1 2).trans rfl, (blk_cell BX_.out.1 3).trans rfl⟩ (fun hHeld => ?_)
 clear hK K
 (try simp only [Act.put, zq1, zq2, zq3, zq4, zq5, zq6])
 refine tkz 8 rfl ?_ (.inl ⟨by rfl, ?_⟩) ?_
 rotate_left 1
 ·intro w hSw
  obtain ⟨s0, s1, s2⟩ := hSw
  go_simp
  (try with_reducible rfl)
 (try simp only [Act.put, zq1, zq2, zq3, zq4, zq5, zq6])
 refine tkz 9 rfl ?_ (.inl ⟨by rfl, ?_⟩) ?_
 rotate_left 1
 ·intro w hSw
  obtain ⟨s0, s1, s2⟩ := hSw
  go_simp
  (try with_reducible rfl)
 (try simp only [Act.put, zq1, zq2, zq3, zq4, zq5, zq6])
 refine tkz 10 rfl ?_ (.inl ⟨by rfl, ?_⟩) ?_
 rotate_left 1
 ·intro w hSw
  obtain ⟨s0, s1, s2⟩ := hSw
  go_simp
  (try with_reducible rfl)
 (try simp only [Act.put, zq1, zq2, zq3, zq4, zq5, zq6])
 refine tkz 11 rfl ?_ (.inl ⟨by rfl, ?_⟩) ?_
 rotate_left 1
 ·intro w hSw
  obtain ⟨s0, s1, s2⟩ := hSw
  go_simp
  (try with_reducible rfl)
 (try simp only [Act.put, zq1, zq2, zq3, zq4, zq5, zq6])
 refine tkz 12 rfl ?_ (.inl ⟨by rfl, ?_⟩) ?_
 rotate_left 1
 ·intro w hSw
  obtain ⟨s0, s1, s2⟩ := hSw
  go_simp
  (try with_reducible rfl)
 (try simp only [Act.put, zq1, zq2, zq3, zq4, zq5, zq6])
 refine tkz 13 rfl ?_ (.inl ⟨by rfl, ?_⟩) ?_
 rotate_left 1
 ·intro w hSw
  obtain ⟨s0, s1, s2⟩ := hSw
  go_simp
  (try with_reducible rfl)
 (try simp only [Act.put, zq1, zq2, zq3, zq4, zq5, zq6])
 refine tkz 14 rfl ?_ (.inl ⟨by rfl, ?_⟩) ?_
 rotate_left 1
 ·intro w hSw
  obtain ⟨s0, s1, s2⟩ := hSw
  go_simp
  (try with_reducible rfl)
 (try simp only [Act.put, zq1, zq2, zq3, zq4, zq5, zq6])
 refine tkz 15 rfl ?_ (.inl ⟨by rfl, ?_⟩) ?_
 rotate_left 1
 ·intro w hSw
  obtain ⟨s0, s1, s2⟩ := hSw
  go_simp
  (try with_reducible rfl)
 (try simp only [Act.put, zq1, zq2, zq3, zq4, zq5, zq6])
 refine tkz 16 rfl ?_ (.inl ⟨by rfl, ?_⟩) ?_
 rotate_left 1
 ·intro w hSw
  obtain ⟨s0, s1, s2⟩ := hSw
  go_simp
  (try with_reducible rfl)
 (try simp only [Act.put, zq1, zq2, zq3, zq4, zq5, zq6])
 refine tkz 17 rfl ?_ (.inl ⟨by rfl, ?_⟩) ?_
 rotate_left 1
 ·intro w hSw
  obtain ⟨s0, s1, s2⟩ := hSw
  go_simp
  (try with_reducible rfl)
 (try simp only [Act.put, zq1, zq2, zq3, zq4, zq5, zq6])
 refine tkz 18 rfl ?_ (.inl ⟨by rfl, ?_⟩) ?_
 rotate_left 1
 ·intro w hSw
  obtain ⟨s0, s1, s2⟩ := hSw
  go_simp
  (try with_reducible rfl)
 (try simp only [Act.put, zq1, zq2, zq3, zq4, zq5, zq6])
 refine tkz 19 rfl ?_ (.inl ⟨by rfl, ?_⟩) ?_
 rotate_left 1
 ·intro w hSw
  obtain ⟨s0, s1, s2⟩ := hSw
  go_simp
  (try with_reducible rfl)
 (try simp only [Act.put, zq1, zq2, zq3, zq4, zq5, zq6])
 refine tkz 20 rfl ?_ (.inl ⟨by rfl, ?_⟩) ?_
 rotate_left 1
 ·intro w hSw
  obtain ⟨s0, s1, s2⟩ := hSw
  go_simp
  (try with_reducible rfl)
 (try simp only [Act.put, zq1, zq2, zq3, zq4, zq5, zq6])
 refine tkz 21 rfl ?_ (.inl ⟨by rfl, ?_⟩) ?_
 rotate_left 1
 ·intro w hSw
  obtain ⟨s0, s1, s2⟩ := hSw
  go_simp
  (try with_reducible rfl)
 (try simp only [Act.put, zq1, zq2, zq3, zq4, zq5, zq6])
 refine tkz 22 rfl ?_ (.inl ⟨by rfl, ?_⟩) ?_
 rotate_left 1
 ·intro w hSw
  obtain ⟨s0, s1, s2⟩ := hSw
  go_simp
  (try with_reducible rfl)
 (try simp only [Act.put, zq1, zq2, zq3, zq4, zq5, zq6])
 refine tkz 23 rfl ?_ (.inl ⟨by rfl, ?_⟩) ?_
 rotate_left 1
 ·intro w hSw
  obtain ⟨s0, s1, s2⟩ := hSw
  go_simp
  (try with_reducible rfl)
 (try simp only [Act.put, zq1, zq2, zq3, zq4, zq5, zq6])
 refine tkz 24 rfl ?_ (.inl ⟨by rfl, ?_⟩) ?_
 rotate_left 1
 ·intro w hSw
  obtain ⟨s0, s1, s2⟩ := hSw
  go_simp
  (try with_reducible rfl)
 (try simp only [Act.put, zq1, zq2, zq3, zq4, zq5, zq6])
 refine wpAnyH_done (by kernel_rfl) ?_ _
 go_wp2_with fail
 go_ret2
 exact ⟨_, _, rfl, by (unfold refOk; simp only [hq, hz]; rw [decide_eq_true HS.out]; exact d3 _), by intro _; rw [strB_app]; simp [opB], BX_.out.2⟩
theorem op2_len {bp nk : Int} {l2 : List S127} {l3 : List S138} {l5 : List Int} {l6 : List ByteArray} {l7 : List Int} (h : (opB (⟨2, bp, l2, l3, ⟨nk, l5, l6, l7⟩⟩ : S107)).length ≤ 140737488355328) :
  (numB l2.length ++ l2.flatMap setB).length ≤ 140737488355328 ∧ (numB l3.length ++ l3.flatMap editB).length ≤ 140737488355328 := by
 unfold opB editsB at h
 simp only [List.length_append, show ¬ (2 : Int) = 3 by decide, if_false, if_true] at h ⊢
 omega
theorem op3_len {bp nk : Int} {l2 : List S127} {l3 : List S138} {l5 : List Int} {l6 : List ByteArray} {l7 : List Int} (h : (opB (⟨3, bp, l2, l3, ⟨nk, l5, l6, l7⟩⟩ : S107)).length ≤ 140737488355328) :
  (nodeB (⟨nk, l5, l6, l7⟩ : S105)).length ≤ 140737488355328 := by
 unfold opB at h
 simp only [List.length_append, if_true] at h
 omega
set_option maxHeartbeats 8000000 in
set_option maxRecDepth 100000 in
theorem op2_f (bp nk : Int) (l2 : List S127) (l3 : List S138) (l5 : List Int) (l6 : List ByteArray) (l7 : List Int) (A2 A3 A5 A6 A7 : Option Addr) (c2 c3 c5 c6 c7 : Nat) (w : World) (hlen : (opB (⟨2, bp, l2, l3, ⟨nk, l5, l6, l7⟩⟩ : S107)).length ≤ 140737488355328) (g2 : k127.C w A2 l2.length l2) (g3 : k138.C w A3 l3.length l3) (g5 : (Kd.int .i64).C w A5 l5.length l5) (g6 : Kd.string.C w A6 l6.length l6) (g7 : (Kd.int .i64).C w A7 l7.length l7) (hok : okOp (⟨2, bp, l2, l3, ⟨nk, l5, l6, l7⟩⟩ : S107)) (hq : noB bp = true) (hz : zeroN (⟨nk, l5, l6, l7⟩ : S105) = false) :
  Calls Try.prog 61 #[.agg #[.int .i64 2, .int .i64 bp, .slice A2 l2.length c2, .slice A3 l3.length c3, .int .i64 nk, .slice A5 l5.length c5, .slice A6 l6.length c6, .slice A7 l7.length c7]] w fun e w' => ∃ s ok, e = .returned (.tuple #[.string s, .bool ok]) ∧ ok = refOk (⟨2, bp, l2, l3, ⟨nk, l5, l6, l7⟩⟩ : S107) ∧ (ok = true → s = strB (opB (⟨2, bp, l2, l3, ⟨nk, l5, l6, l7⟩⟩ : S107))) ∧ Below w.heap.size w w' := by
 have G2 := Lib.hid g2
 have G3 := Lib.hid g3
 have G5 := Lib.hid g5
 have G6 := Lib.hid g6
 have G7 := Lib.hid g7
 have HOK := Lib.hid hok
 have HL := Lib.hid (op2_len hlen)
 clear g2 g3 g5 g6 g7 hok
 skip
 have BX_ : Hid ((w.alloc (.cells #[.int .i64 2, .int .i64 bp, .slice A2 l2.length c2, .slice A3 l3.length c3, .int .i64 nk, .slice A5 l5.length c5, .slice A6 l6.length c6, .slice A7 l7.length c7] 107)).heap[w.heap.size]? = some (.cells #[.int .i64 2, .int .i64 bp, .slice A2 l2.length c2, .slice A3 l3.length c3, .int .i64 nk, .slice A5 l5.length c5, .slice A6 l6.length c6, .slice A7 l7.length c7] 107 (0, 0)) ∧ Below w.heap.size w (w.alloc (.cells #[.int .i64 2, .int .i64 bp, .slice A2 l2.length c2, .slice A3 l3.length c3, .int .i64 nk, .slice A5 l5.length c5, .slice A6 l6.length c6, .slice A7 l7.length c7] 107))) := Lib.hid ⟨heap_alloc_new w _, (Below.refl _ _).alloc (Nat.le_refl _) _⟩
 have hsA := refSets_size l2
 have hsB := refEdits_size l3
 have hL := HL.out
 have xa : (9223372036854775807 < (strB (numB 2)).size + (strB (numB bp)).size) = False := eq_false (by rw [strB_size, strB_size]; have := numB_len 2; have := numB_len bp; omega)
 have xb : (9223372036854775807 < (strB (numB 2)).size + (strB (numB bp)).size + (refSets l2).1.size) = False := eq_false (by rw [strB_size, strB_size]; have := numB_len 2; have := numB_len bp; omega)
 have xc : (9223372036854775807 < (strB (numB 2)).size + (strB (numB bp)).size + (refSets l2).1.size + (refEdits l3).1.size) = False := eq_false (by rw [strB_size, strB_size]; have := numB_len 2; have := numB_len bp; omega)
 clear hsA hsB hL hlen
 go_enter Try.func61, Try.ntmps61
 go_wp2_with (first | (go_at_call 78; refine (same_calls (⟨nk, l5, l6, l7⟩ : S105) A5 A6 A7 c5 c6 c7 _).mono ?_; rintro e w1 ⟨rfl, hb1⟩; have BZ := boxT BX_ hb1; have z0 : w1.cell? ⟨w.heap.size, 0, none⟩ = some (.int .i64 2) := (blk_cell BZ.out.1 0).trans rfl; have z1 : w1.cell? ⟨w.heap.size, 1, none⟩ = some (.int .i64 bp) := (blk_cell BZ.out.1 1).trans rfl; have z2 : w1.cell? ⟨w.heap.size, 2, none⟩ = some (.slice A2 l2.length c2) := (blk_cell BZ.out.1 2).trans rfl; have z3 : w1.cell? ⟨w.heap.size, 3, none⟩ = some (.slice A3 l3.length c3) := (blk_cell BZ.out.1 3).trans rfl; have z4 : w1.cell? ⟨w.heap.size, 4, none⟩ = some (.int .i64 nk) := (blk_cell BZ.out.1 4).trans rfl; have z5 : w1.cell? ⟨w.heap.size, 5, none⟩ = some (.slice A5 l5.length c5) := (blk_cell BZ.out.1 5).trans rfl; have z6 : w1.cell? ⟨w.heap.size, 6, none⟩ = some (.slice A6 l6.length c6) := (blk_cell BZ.out.1 6).trans rfl; have z7 : w1.cell? ⟨w.heap.size, 7, none⟩ = some (.slice A7 l7.length c7) := (blk_cell BZ.out.1 7).trans rfl) | (go_at_call 80; refine (sets_calls l2 A2 c2 _ (Kd.C_below G2.out BZ.out.2) HOK.out.1 HL.out.1).mono ?_; rintro e w2 ⟨rfl, hb2⟩; have BW := boxT BZ hb2; have z3 : w2.cell? ⟨w.heap.size, 3, none⟩ = some (.slice A3 l3.length c3) := (blk_cell BW.out.1 3).trans rfl) | (go_at_call 81; refine (edits_calls l3 A3 c3 _ (Kd.C_below G3.out BW.out.2) HL.out.2).mono ?_; rintro e w3 ⟨rfl, hb3⟩; have BV := boxT BW hb3))
 obtain ⟨g, hgX⟩ : ∃ g, g = w.heap.size := ⟨_, rfl⟩
 rw [← hgX]
 have BG : Hid (w3.heap[g]? = some (.cells #[.int .i64 2, .int .i64 bp, .slice A2 l2.length c2, .slice A3 l3.length c3, .int .i64 nk, .slice A5 l5.length c5, .slice A6 l6.length c6, .slice A7 l7.length c7] 107 (0, 0)) ∧ Below w.heap.size w w3) := by rw [hgX]; exact BV
 clear BX_ BZ BV hb1 hb3 hgX z0 z1 z2 z3 z4 z5 z6 z7 BW hb2
 have BX_ := BG
 clear BG
 have BD := boxD BX_
 clear BX_
 have BX_ := BD
 clear BD
 refine wp_region_held_drew (S := fun w' => w'.cell? ⟨g, 1, none⟩ = some (.int .i64 bp)) (by kernel_rfl) ((blk_cell BX_.out.1 1).trans rfl) (fun hHeld => ?_)
 refine tkz 1 rfl ?_ (.inl ⟨by rfl, ?_⟩) ?_
 rotate_left 1
 ·intro w hSw
  have s0 := hSw
  go_simp
  (try with_reducible rfl)
 (try simp only [Act.put, zq1, zq2, zq3, zq4, zq5, zq6])
 refine tkz 2 rfl ?_ (.inl ⟨by rfl, ?_⟩) ?_
 rotate_left 1
 ·intro w hSw
  have s0 := hSw
  go_simp
  (try with_reducible rfl)
 (try simp only [Act.put, zq1, zq2, zq3, zq4, zq5, zq6])
 refine tkz 5 rfl ?_ (.inl ⟨by rfl, ?_⟩) ?_
 rotate_left 1
 ·intro w hSw
  have s0 := hSw
  go_simp
  (try with_reducible rfl)
 (try simp only [Act.put, zq1, zq2, zq3, zq4, zq5, zq6])
 refine tkz 7 rfl ?_ (.inl ⟨by rfl, ?_⟩) ?_
 rotate_left 1
 ·intro w hSw
  have s0 := hSw
  go_simp
  (try with_reducible rfl)
 (try simp only [Act.put, zq1, zq2, zq3, zq4, zq5, zq6])
 refine tkz 9 rfl ?_ (.inl ⟨by rfl, ?_⟩) ?_
 rotate_left 1
 ·intro w hSw
  have s0 := hSw
  go_simp
  (try with_reducible rfl)
 (try simp only [Act.put, zq1, zq2, zq3, zq4, zq5, zq6])
 refine tkz 10 rfl ?_ (.inl ⟨by rfl, ?_⟩) ?_
 rotate_left 1
 ·intro w hSw
  have s0 := hSw
  go_simp
  (try with_reducible rfl)
 (try simp only [Act.put, zq1, zq2, zq3, zq4, zq5, zq6])
 refine wpAnyH_ready (rs := [0]) (by kernel_rfl) (by simp) ?_
 refine AllReadyH.cons (o := _) rfl (fun K hK => ?_) AllReadyH.nil
 go_simp
 go_at_call 60
 refine (num_calls (2) _).mono ?_
 rintro e w_ ⟨rfl, hb_⟩
 have BZ := boxT BX_ hb_
 clear BX_ hb_
 have BX_ := BZ
 clear BZ
 refine hK.out _ _ ((blk_cell BX_.out.1 1).trans rfl) (fun hHeld => ?_)
 clear hK K
 (try simp only [Act.put, zq1, zq2, zq3, zq4, zq5, zq6])
 refine wpAnyH_ready (rs := [3]) (by kernel_rfl) (by simp) ?_
 refine AllReadyH.cons (o := _) rfl (fun K hK => ?_) AllReadyH.nil
 go_simp
 go_at_call 60
 refine (num_calls (bp) _).mono ?_
 rintro e w_ ⟨rfl, hb_⟩
 have BZ := boxT BX_ hb_
 clear BX_ hb_
 have BX_ := BZ
 clear BZ
 refine hK.out _ _ ((blk_cell BX_.out.1 1).trans rfl) (fun hHeld => ?_)
 clear hK K
 (try simp only [Act.put, zq1, zq2, zq3, zq4, zq5, zq6])
 refine tkz 4 rfl ?_ (.inl ⟨by rfl, ?_⟩) ?_
 rotate_left 1
 ·intro w hSw
  have s0 := hSw
  go_simp
  (try with_reducible rfl)
 (try simp only [Act.put, zq1, zq2, zq3, zq4, zq5, zq6])
 refine tkz 6 rfl ?_ (.inl ⟨by rfl, ?_⟩) ?_
 rotate_left 1
 ·intro w hSw
  have s0 := hSw
  go_simp
  (try with_reducible rfl)
 (try simp only [Act.put, zq1, zq2, zq3, zq4, zq5, zq6])
 refine tkz 8 rfl ?_ (.inl ⟨by rfl, ?_⟩) ?_
 rotate_left 1
 ·intro w hSw
  have s0 := hSw
  go_simp
  (try with_reducible rfl)
 (try simp only [Act.put, zq1, zq2, zq3, zq4, zq5, zq6])
 refine wpAnyH_ready (rs := [11]) (by kernel_rfl) (by simp) ?_
 refine AllReadyH.cons (o := _) rfl (fun K hK => ?_) AllReadyH.nil
 go_simp
 go_at_call 79
 refine (fits_calls bp _).mono ?_
 rw [hq]
 rintro e w_ ⟨rfl, rfl⟩
 refine hK.out _ _ ((blk_cell BX_.out.1 1).trans rfl) (fun hHeld => ?_)
 clear hK K
 (try simp only [Act.put, zq1, zq2, zq3, zq4, zq5, zq6])
 refine tkz 12 rfl ?_ (.inl ⟨by rfl, ?_⟩) ?_
 rotate_left 1
 ·intro w hSw
  have s0 := hSw
  go_simp
  (try with_reducible rfl)
 (try simp only [Act.put, zq1, zq2, zq3, zq4, zq5, zq6])
 refine tkz 13 rfl undef (.inr ⟨by rfl, rfl⟩) ?_
 (try simp only [Act.put, zq1, zq2, zq3, zq4, zq5, zq6])
 refine tkz 14 rfl ?_ (.inl ⟨by rfl, ?_⟩) ?_
 rotate_left 1
 ·intro w hSw
  have s0 := hSw
  go_simp
  (try with_reducible rfl)
 (try simp only [Act.put, zq1, zq2, zq3, zq4, zq5, zq6])
 refine tkz 15 rfl ?_ (.inl ⟨by rfl, ?_⟩) ?_
 rotate_left 1
 ·intro w hSw
  have s0 := hSw
  go_simp
  (try with_reducible rfl)
 (try simp only [Act.put, zq1, zq2, zq3, zq4, zq5, zq6])
 refine tkz 16 rfl undef (.inr ⟨by rfl, rfl⟩) ?_
 (try simp only [Act.put, zq1, zq2, zq3, zq4, zq5, zq6])
 refine tkz 17 rfl ?_ (.inl ⟨by rfl, ?_⟩) ?_
 rotate_left 1
 ·intro w hSw
  have s0 := hSw
  go_simp
  (try with_reducible rfl)
 (try simp only [Act.put, zq1, zq2, zq3, zq4, zq5, zq6])
 refine tkz 18 rfl ?_ (.inl ⟨by rfl, ?_⟩) ?_
 rotate_left 1
 ·intro w hSw
  have s0 := hSw
  go_simp
  (try with_reducible rfl)
 (try simp only [Act.put, zq1, zq2, zq3, zq4, zq5, zq6])
 refine tkz 19 rfl undef (.inr ⟨by rfl, rfl⟩) ?_
 (try simp only [Act.put, zq1, zq2, zq3, zq4, zq5, zq6])
 refine tkz 20 rfl ?_ (.inl ⟨by rfl, ?_⟩) ?_
 rotate_left 1
 ·intro w hSw
  have s0 := hSw
  go_simp
  (try with_reducible rfl)
 (try simp only [Act.put, zq1, zq2, zq3, zq4, zq5, zq6])
 refine tkz 21 rfl ?_ (.inl ⟨by rfl, ?_⟩) ?_
 rotate_left 1
 ·intro w hSw
  have s0 := hSw
  go_simp
  (try with_reducible rfl)
 (try simp only [Act.put, zq1, zq2, zq3, zq4, zq5, zq6])
 refine tkz 22 rfl ?_ (.inl ⟨by rfl, ?_⟩) ?_
 rotate_left 1
 ·intro w hSw
  have s0 := hSw
  go_simp
  (try with_reducible rfl)
 (try simp only [Act.put, zq1, zq2, zq3, zq4, zq5, zq6])
 refine wpAnyH_done (by kernel_rfl) ?_ _
 go_wp2_with fail
 go_ret2
 exact ⟨_, _, rfl, by simp [refOk, hq], by intro h; simp at h, BX_.out.2⟩
set_option maxHeartbeats 8000000 in
set_option maxRecDepth 100000 in
theorem op2_g (bp nk : Int) (l2 : List S127) (l3 : List S138) (l5 : List Int) (l6 : List ByteArray) (l7 : List Int) (A2 A3 A5 A6 A7 : Option Addr) (c2 c3 c5 c6 c7 : Nat) (w : World) (hlen : (opB (⟨2, bp, l2, l3, ⟨nk, l5, l6, l7⟩⟩ : S107)).length ≤ 140737488355328) (g2 : k127.C w A2 l2.length l2) (g3 : k138.C w A3 l3.length l3) (g5 : (Kd.int .i64).C w A5 l5.length l5) (g6 : Kd.string.C w A6 l6.length l6) (g7 : (Kd.int .i64).C w A7 l7.length l7) (hok : okOp (⟨2, bp, l2, l3, ⟨nk, l5, l6, l7⟩⟩ : S107)) (hq : noB bp = true) (hz : zeroN (⟨nk, l5, l6, l7⟩ : S105) = true) :
  Calls Try.prog 61 #[.agg #[.int .i64 2, .int .i64 bp, .slice A2 l2.length c2, .slice A3 l3.length c3, .int .i64 nk, .slice A5 l5.length c5, .slice A6 l6.length c6, .slice A7 l7.length c7]] w fun e w' => ∃ s ok, e = .returned (.tuple #[.string s, .bool ok]) ∧ ok = refOk (⟨2, bp, l2, l3, ⟨nk, l5, l6, l7⟩⟩ : S107) ∧ (ok = true → s = strB (opB (⟨2, bp, l2, l3, ⟨nk, l5, l6, l7⟩⟩ : S107))) ∧ Below w.heap.size w w' := by
 have G2 := Lib.hid g2
 have G3 := Lib.hid g3
 have G5 := Lib.hid g5
 have G6 := Lib.hid g6
 have G7 := Lib.hid g7
 have HOK := Lib.hid hok
 have HL := Lib.hid (op2_len hlen)
 clear g2 g3 g5 g6 g7 hok
 skip
 have BX_ : Hid ((w.alloc (.cells #[.int .i64 2, .int .i64 bp, .slice A2 l2.length c2, .slice A3 l3.length c3, .int .i64 nk, .slice A5 l5.length c5, .slice A6 l6.length c6, .slice A7 l7.length c7] 107)).heap[w.heap.size]? = some (.cells #[.int .i64 2, .int .i64 bp, .slice A2 l2.length c2, .slice A3 l3.length c3, .int .i64 nk, .slice A5 l5.length c5, .slice A6 l6.length c6, .slice A7 l7.length c7] 107 (0, 0)) ∧ Below w.heap.size w (w.alloc (.cells #[.int .i64 2, .int .i64 bp, .slice A2 l2.length c2, .slice A3 l3.length c3, .int .i64 nk, .slice A5 l5.length c5, .slice A6 l6.length c6, .slice A7 l7.length c7] 107))) := Lib.hid ⟨heap_alloc_new w _, (Below.refl _ _).alloc (Nat.le_refl _) _⟩
 have hsA := refSets_size l2
 have hsB := refEdits_size l3
 have hL := HL.out
 have xa : (9223372036854775807 < (strB (numB 2)).size + (strB (numB bp)).size) = False := eq_false (by rw [strB_size, strB_size]; have := numB_len 2; have := numB_len bp; omega)
 have xb : (9223372036854775807 < (strB (numB 2)).size + (strB (numB bp)).size + (refSets l2).1.size) = False := eq_false (by rw [strB_size, strB_size]; have := numB_len 2; have := numB_len bp; omega)
 have xc : (9223372036854775807 < (strB (numB 2)).size + (strB (numB bp)).size + (refSets l2).1.size + (refEdits l3).1.size) = False := eq_false (by rw [strB_size, strB_size]; have := numB_len 2; have := numB_len bp; omega)
 clear hsA hsB hL hlen
 go_enter Try.func61, Try.ntmps61
 go_wp2_with (first | (go_at_call 78; refine (same_calls (⟨nk, l5, l6, l7⟩ : S105) A5 A6 A7 c5 c6 c7 _).mono ?_; rintro e w1 ⟨rfl, hb1⟩; have BZ := boxT BX_ hb1; have z0 : w1.cell? ⟨w.heap.size, 0, none⟩ = some (.int .i64 2) := (blk_cell BZ.out.1 0).trans rfl; have z1 : w1.cell? ⟨w.heap.size, 1, none⟩ = some (.int .i64 bp) := (blk_cell BZ.out.1 1).trans rfl; have z2 : w1.cell? ⟨w.heap.size, 2, none⟩ = some (.slice A2 l2.length c2) := (blk_cell BZ.out.1 2).trans rfl; have z3 : w1.cell? ⟨w.heap.size, 3, none⟩ = some (.slice A3 l3.length c3) := (blk_cell BZ.out.1 3).trans rfl; have z4 : w1.cell? ⟨w.heap.size, 4, none⟩ = some (.int .i64 nk) := (blk_cell BZ.out.1 4).trans rfl; have z5 : w1.cell? ⟨w.heap.size, 5, none⟩ = some (.slice A5 l5.length c5) := (blk_cell BZ.out.1 5).trans rfl; have z6 : w1.cell? ⟨w.heap.size, 6, none⟩ = some (.slice A6 l6.length c6) := (blk_cell BZ.out.1 6).trans rfl; have z7 : w1.cell? ⟨w.heap.size, 7, none⟩ = some (.slice A7 l7.length c7) := (blk_cell BZ.out.1 7).trans rfl) | (go_at_call 80; refine (sets_calls l2 A2 c2 _ (Kd.C_below G2.out BZ.out.2) HOK.out.1 HL.out.1).mono ?_; rintro e w2 ⟨rfl, hb2⟩; have BW := boxT BZ hb2; have z3 : w2.cell? ⟨w.heap.size, 3, none⟩ = some (.slice A3 l3.length c3) := (blk_cell BW.out.1 3).trans rfl) | (go_at_call 81; refine (edits_calls l3 A3 c3 _ (Kd.C_below G3.out BW.out.2) HL.out.2).mono ?_; rintro e w3 ⟨rfl, hb3⟩; have BV := boxT BW hb3))
 obtain ⟨g, hgX⟩ : ∃ g, g = w.heap.size := ⟨_, rfl⟩
 rw [← hgX]
 have BG : Hid (w3.heap[g]? = some (.cells #[.int .i64 2, .int .i64 bp, .slice A2 l2.length c2, .slice A3 l3.length c3, .int .i64 nk, .slice A5 l5.length c5, .slice A6 l6.length c6, .slice A7 l7.length c7] 107 (0, 0)) ∧ Below w.heap.size w w3) := by rw [hgX]; exact BV
 clear BX_ BZ BV hb1 hb3 hgX z0 z1 z2 z3 z4 z5 z6 z7 BW hb2
 have BX_ := BG
 clear BG
 have BD := boxD BX_
 clear BX_
 have BX_ := BD
 clear BD
 refine wp_region_held_drew (S := fun w' => w'.cell? ⟨g, 1, none⟩ = some (.int .i64 bp)) (by kernel_rfl) ((blk_cell BX_.out.1 1).trans rfl) (fun hHeld => ?_)
 refine tkz 1 rfl ?_ (.inl ⟨by rfl, ?_⟩) ?_
 rotate_left 1
 ·intro w hSw
  have s0 := hSw
  go_simp
  (try with_reducible rfl)
 (try simp only [Act.put, zq1, zq2, zq3, zq4, zq5, zq6])
 refine tkz 2 rfl ?_ (.inl ⟨by rfl, ?_⟩) ?_
 rotate_left 1
 ·intro w hSw
  have s0 := hSw
  go_simp
  (try with_reducible rfl)
 (try simp only [Act.put, zq1, zq2, zq3, zq4, zq5, zq6])
 refine tkz 5 rfl ?_ (.inl ⟨by rfl, ?_⟩) ?_
 rotate_left 1
 ·intro w hSw
  have s0 := hSw
  go_simp
  (try with_reducible rfl)
 (try simp only [Act.put, zq1, zq2, zq3, zq4, zq5, zq6])
 refine tkz 7 rfl ?_ (.inl ⟨by rfl, ?_⟩) ?_
 rotate_left 1
 ·intro w hSw
  have s0 := hSw
  go_simp
  (try with_reducible rfl)
 (try simp only [Act.put, zq1, zq2, zq3, zq4, zq5, zq6])
 refine tkz 9 rfl ?_ (.inl ⟨by rfl, ?_⟩) ?_
 rotate_left 1
 ·intro w hSw
  have s0 := hSw
  go_simp
  (try with_reducible rfl)
 (try simp only [Act.put, zq1, zq2, zq3, zq4, zq5, zq6])
 refine tkz 10 rfl ?_ (.inl ⟨by rfl, ?_⟩) ?_
 rotate_left 1
 ·intro w hSw
  have s0 := hSw
  go_simp
  (try with_reducible rfl)
 (try simp only [Act.put, zq1, zq2, zq3, zq4, zq5, zq6])
 refine wpAnyH_ready (rs := [0]) (by kernel_rfl) (by simp) ?_
 refine AllReadyH.cons (o := _) rfl (fun K hK => ?_) AllReadyH.nil
 go_simp
 go_at_call 60
 refine (num_calls (2) _).mono ?_
 rintro e w_ ⟨rfl, hb_⟩
 have BZ := boxT BX_ hb_
 clear BX_ hb_
 have BX_ := BZ
 clear BZ
 refine hK.out _ _ ((blk_cell BX_.out.1 1).trans rfl) (fun hHeld => ?_)
 clear hK K
 (try simp only [Act.put, zq1, zq2, zq3, zq4, zq5, zq6])
 refine wpAnyH_ready (rs := [3]) (by kernel_rfl) (by simp) ?_
 refine AllReadyH.cons (o := _) rfl (fun K hK => ?_) AllReadyH.nil
 go_simp
 go_at_call 60
 refine (num_calls (bp) _).mono ?_
 rintro e w_ ⟨rfl, hb_⟩
 have BZ := boxT BX_ hb_
 clear BX_ hb_
 have BX_ := BZ
 clear BZ
 refine hK.out _ _ ((blk_cell BX_.out.1 1).trans rfl) (fun hHeld => ?_)
 clear hK K
 (try simp only [Act.put, zq1, zq2, zq3, zq4, zq5, zq6])
 refine tkz 4 rfl ?_ (.inl ⟨by rfl, ?_⟩) ?_
 rotate_left 1
 ·intro w hSw
  have s0 := hSw
  go_simp
  (try with_reducible rfl)
 (try simp only [Act.put, zq1, zq2, zq3, zq4, zq5, zq6])
 refine tkz 6 rfl ?_ (.inl ⟨by rfl, ?_⟩) ?_
 rotate_left 1
 ·intro w hSw
  have s0 := hSw
  go_simp
  (try with_reducible rfl)
 (try simp only [Act.put, zq1, zq2, zq3, zq4, zq5, zq6])
 refine tkz 8 rfl ?_ (.inl ⟨by rfl, ?_⟩) ?_
 rotate_left 1
 ·intro w hSw
  have s0 := hSw
  go_simp
  (try with_reducible rfl)
 (try simp only [Act.put, zq1, zq2, zq3, zq4, zq5, zq6])
 refine wpAnyH_ready (rs := [11]) (by kernel_rfl) (by simp) ?_
 refine AllReadyH.cons (o := _) rfl (fun K hK => ?_) AllReadyH.nil
 go_simp
 go_at_call 79
 refine (fits_calls bp _).mono ?_
 rw [hq]
 rintro e w_ ⟨rfl, rfl⟩
 refine hK.out _ _ ((blk_cell BX_.out.1 1).trans rfl) (fun hHeld => ?_)
 clear hK K
 (try simp only [Act.put, zq1, zq2, zq3, zq4, zq5, zq6])
 refine tkz 12 rfl ?_ (.inl ⟨by rfl, ?_⟩) ?_
 rotate_left 1
 ·intro w hSw
  have s0 := hSw
  go_simp
  (try with_reducible rfl)
 (try simp only [Act.put, zq1, zq2, zq3, zq4, zq5, zq6])
 refine tkz 13 rfl undef (.inr ⟨by rfl, rfl⟩) ?_
 (try simp only [Act.put, zq1, zq2, zq3, zq4, zq5, zq6])
 refine tkz 14 rfl ?_ (.inl ⟨by rfl, ?_⟩) ?_
 rotate_left 1
 ·intro w hSw
  have s0 := hSw
  go_simp
  (try with_reducible rfl)
 (try simp only [Act.put, zq1, zq2, zq3, zq4, zq5, zq6])
 refine tkz 15 rfl ?_ (.inl ⟨by rfl, ?_⟩) ?_
 rotate_left 1
 ·intro w hSw
  have s0 := hSw
  go_simp
  (try with_reducible rfl)
 (try simp only [Act.put, zq1, zq2, zq3, zq4, zq5, zq6])
 refine tkz 16 rfl undef (.inr ⟨by rfl, rfl⟩) ?_
 (try simp only [Act.put, zq1, zq2, zq3, zq4, zq5, zq6])
 refine tkz 17 rfl ?_ (.inl ⟨by rfl, ?_⟩) ?_
 rotate_left 1
 ·intro w hSw
  have s0 := hSw
  go_simp
  (try with_reducible rfl)
 (try simp only [Act.put, zq1, zq2, zq3, zq4, zq5, zq6])
 refine tkz 18 rfl ?_ (.inl ⟨by rfl, ?_⟩) ?_
 rotate_left 1
 ·intro w hSw
  have s0 := hSw
  go_simp
  (try with_reducible rfl)
 (try simp only [Act.put, zq1, zq2, zq3, zq4, zq5, zq6])
 refine tkz 19 rfl undef (.inr ⟨by rfl, rfl⟩) ?_
 (try simp only [Act.put, zq1, zq2, zq3, zq4, zq5, zq6])
 refine tkz 20 rfl ?_ (.inl ⟨by rfl, ?_⟩) ?_
 rotate_left 1
 ·intro w hSw
  have s0 := hSw
  go_simp
  (try with_reducible rfl)
 (try simp only [Act.put, zq1, zq2, zq3, zq4, zq5, zq6])
 refine tkz 21 rfl ?_ (.inl ⟨by rfl, ?_⟩) ?_
 rotate_left 1
 ·intro w hSw
  have s0 := hSw
  go_simp
  (try with_reducible rfl)
 (try simp only [Act.put, zq1, zq2, zq3, zq4, zq5, zq6])
 refine tkz 22 rfl ?_ (.inl ⟨by rfl, ?_⟩) ?_
 rotate_left 1
 ·intro w hSw
  have s0 := hSw
  go_simp
  (try with_reducible rfl)
 (try simp only [Act.put, zq1, zq2, zq3, zq4, zq5, zq6])
 refine wpAnyH_done (by kernel_rfl) ?_ _
 go_wp2_with fail
 go_ret2
 exact ⟨_, _, rfl, by simp [refOk, hq], by intro h; simp at h, BX_.out.2⟩
set_option maxHeartbeats 8000000 in
set_option maxRecDepth 100000 in
theorem op2_z (bp nk : Int) (l2 : List S127) (l3 : List S138) (l5 : List Int) (l6 : List ByteArray) (l7 : List Int) (A2 A3 A5 A6 A7 : Option Addr) (c2 c3 c5 c6 c7 : Nat) (w : World) (hlen : (opB (⟨2, bp, l2, l3, ⟨nk, l5, l6, l7⟩⟩ : S107)).length ≤ 140737488355328) (g2 : k127.C w A2 l2.length l2) (g3 : k138.C w A3 l3.length l3) (g5 : (Kd.int .i64).C w A5 l5.length l5) (g6 : Kd.string.C w A6 l6.length l6) (g7 : (Kd.int .i64).C w A7 l7.length l7) (hok : okOp (⟨2, bp, l2, l3, ⟨nk, l5, l6, l7⟩⟩ : S107)) (hq : noB bp = false) (hz : zeroN (⟨nk, l5, l6, l7⟩ : S105) = false) :
  Calls Try.prog 61 #[.agg #[.int .i64 2, .int .i64 bp, .slice A2 l2.length c2, .slice A3 l3.length c3, .int .i64 nk, .slice A5 l5.length c5, .slice A6 l6.length c6, .slice A7 l7.length c7]] w fun e w' => ∃ s ok, e = .returned (.tuple #[.string s, .bool ok]) ∧ ok = refOk (⟨2, bp, l2, l3, ⟨nk, l5, l6, l7⟩⟩ : S107) ∧ (ok = true → s = strB (opB (⟨2, bp, l2, l3, ⟨nk, l5, l6, l7⟩⟩ : S107))) ∧ Below w.heap.size w w' := by
 have G2 := Lib.hid g2
 have G3 := Lib.hid g3
 have G5 := Lib.hid g5
 have G6 := Lib.hid g6
 have G7 := Lib.hid g7
 have HOK := Lib.hid hok
 have HL := Lib.hid (op2_len hlen)
 clear g2 g3 g5 g6 g7 hok
 skip
 have BX_ : Hid ((w.alloc (.cells #[.int .i64 2, .int .i64 bp, .slice A2 l2.length c2, .slice A3 l3.length c3, .int .i64 nk, .slice A5 l5.length c5, .slice A6 l6.length c6, .slice A7 l7.length c7] 107)).heap[w.heap.size]? = some (.cells #[.int .i64 2, .int .i64 bp, .slice A2 l2.length c2, .slice A3 l3.length c3, .int .i64 nk, .slice A5 l5.length c5, .slice A6 l6.length c6, .slice A7 l7.length c7] 107 (0, 0)) ∧ Below w.heap.size w (w.alloc (.cells #[.int .i64 2, .int .i64 bp, .slice A2 l2.length c2, .slice A3 l3.length c3, .int .i64 nk, .slice A5 l5.length c5, .slice A6 l6.length c6, .slice A7 l7.length c7] 107))) := Lib.hid ⟨heap_alloc_new w _, (Below.refl _ _).alloc (Nat.le_refl _) _⟩
 have hsA := refSets_size l2
 have hsB := refEdits_size l3
 have hL := HL.out
 have xa : (9223372036854775807 < (strB (numB 2)).size + (strB (numB bp)).size) = False := eq_false (by rw [strB_size, strB_size]; have := numB_len 2; have := numB_len bp; omega)
 have xb : (9223372036854775807 < (strB (numB 2)).size + (strB (numB bp)).size + (refSets l2).1.size) = False := eq_false (by rw [strB_size, strB_size]; have := numB_len 2; have := numB_len bp; omega)
 have xc : (9223372036854775807 < (strB (numB 2)).size + (strB (numB bp)).size + (refSets l2).1.size + (refEdits l3).1.size) = False := eq_false (by rw [strB_size, strB_size]; have := numB_len 2; have := numB_len bp; omega)
 clear hsA hsB hL hlen
 go_enter Try.func61, Try.ntmps61
 go_wp2_with (first | (go_at_call 78; refine (same_calls (⟨nk, l5, l6, l7⟩ : S105) A5 A6 A7 c5 c6 c7 _).mono ?_; rintro e w1 ⟨rfl, hb1⟩; have BZ := boxT BX_ hb1; have z0 : w1.cell? ⟨w.heap.size, 0, none⟩ = some (.int .i64 2) := (blk_cell BZ.out.1 0).trans rfl; have z1 : w1.cell? ⟨w.heap.size, 1, none⟩ = some (.int .i64 bp) := (blk_cell BZ.out.1 1).trans rfl; have z2 : w1.cell? ⟨w.heap.size, 2, none⟩ = some (.slice A2 l2.length c2) := (blk_cell BZ.out.1 2).trans rfl; have z3 : w1.cell? ⟨w.heap.size, 3, none⟩ = some (.slice A3 l3.length c3) := (blk_cell BZ.out.1 3).trans rfl; have z4 : w1.cell? ⟨w.heap.size, 4, none⟩ = some (.int .i64 nk) := (blk_cell BZ.out.1 4).trans rfl; have z5 : w1.cell? ⟨w.heap.size, 5, none⟩ = some (.slice A5 l5.length c5) := (blk_cell BZ.out.1 5).trans rfl; have z6 : w1.cell? ⟨w.heap.size, 6, none⟩ = some (.slice A6 l6.length c6) := (blk_cell BZ.out.1 6).trans rfl; have z7 : w1.cell? ⟨w.heap.size, 7, none⟩ = some (.slice A7 l7.length c7) := (blk_cell BZ.out.1 7).trans rfl) | (go_at_call 80; refine (sets_calls l2 A2 c2 _ (Kd.C_below G2.out BZ.out.2) HOK.out.1 HL.out.1).mono ?_; rintro e w2 ⟨rfl, hb2⟩; have BW := boxT BZ hb2; have z3 : w2.cell? ⟨w.heap.size, 3, none⟩ = some (.slice A3 l3.length c3) := (blk_cell BW.out.1 3).trans rfl) | (go_at_call 81; refine (edits_calls l3 A3 c3 _ (Kd.C_below G3.out BW.out.2) HL.out.2).mono ?_; rintro e w3 ⟨rfl, hb3⟩; have BV := boxT BW hb3))
 obtain ⟨g, hgX⟩ : ∃ g, g = w.heap.size := ⟨_, rfl⟩
 rw [← hgX]
 have BG : Hid (w3.heap[g]? = some (.cells #[.int .i64 2, .int .i64 bp, .slice A2 l2.length c2, .slice A3 l3.length c3, .int .i64 nk, .slice A5 l5.length c5, .slice A6 l6.length c6, .slice A7 l7.length c7] 107 (0, 0)) ∧ Below w.heap.size w w3) := by rw [hgX]; exact BV
 clear BX_ BZ BV hb1 hb3 hgX z0 z1 z2 z3 z4 z5 z6 z7 BW hb2
 have BX_ := BG
 clear BG
 have BD := boxD BX_
 clear BX_
 have BX_ := BD
 clear BD
 refine wp_region_held_drew (S := fun w' => w'.cell? ⟨g, 1, none⟩ = some (.int .i64 bp)) (by kernel_rfl) ((blk_cell BX_.out.1 1).trans rfl) (fun hHeld => ?_)
 refine tkz 1 rfl ?_ (.inl ⟨by rfl, ?_⟩) ?_
 rotate_left 1
 ·intro w hSw
  have s0 := hSw
  go_simp
  (try with_reducible rfl)
 (try simp only [Act.put, zq1, zq2, zq3, zq4, zq5, zq6])
 refine tkz 2 rfl ?_ (.inl ⟨by rfl, ?_⟩) ?_
 rotate_left 1
 ·intro w hSw
  have s0 := hSw
  go_simp
  (try with_reducible rfl)
 (try simp only [Act.put, zq1, zq2, zq3, zq4, zq5, zq6])
 refine tkz 5 rfl ?_ (.inl ⟨by rfl, ?_⟩) ?_
 rotate_left 1
 ·intro w hSw
  have s0 := hSw
  go_simp
  (try with_reducible rfl)
 (try simp only [Act.put, zq1, zq2, zq3, zq4, zq5, zq6])
 refine tkz 7 rfl ?_ (.inl ⟨by rfl, ?_⟩) ?_
 rotate_left 1
 ·intro w hSw
  have s0 := hSw
  go_simp
  (try with_reducible rfl)
 (try simp only [Act.put, zq1, zq2, zq3, zq4, zq5, zq6])
 refine tkz 9 rfl ?_ (.inl ⟨by rfl, ?_⟩) ?_
 rotate_left 1
 ·intro w hSw
  have s0 := hSw
  go_simp
  (try with_reducible rfl)
 (try simp only [Act.put, zq1, zq2, zq3, zq4, zq5, zq6])
 refine tkz 10 rfl ?_ (.inl ⟨by rfl, ?_⟩) ?_
 rotate_left 1
 ·intro w hSw
  have s0 := hSw
  go_simp
  (try with_reducible rfl)
 (try simp only [Act.put, zq1, zq2, zq3, zq4, zq5, zq6])
 refine wpAnyH_ready (rs := [0]) (by kernel_rfl) (by simp) ?_
 refine AllReadyH.cons (o := _) rfl (fun K hK => ?_) AllReadyH.nil
 go_simp
 go_at_call 60
 refine (num_calls (2) _).mono ?_
 rintro e w_ ⟨rfl, hb_⟩
 have BZ := boxT BX_ hb_
 clear BX_ hb_
 have BX_ := BZ
 clear BZ
 refine hK.out _ _ ((blk_cell BX_.out.1 1).trans rfl) (fun hHeld => ?_)
 clear hK K
 (try simp only [Act.put, zq1, zq2, zq3, zq4, zq5, zq6])
 refine wpAnyH_ready (rs := [3]) (by kernel_rfl) (by simp) ?_
 refine AllReadyH.cons (o := _) rfl (fun K hK => ?_) AllReadyH.nil
 go_simp
 go_at_call 60
 refine (num_calls (bp) _).mono ?_
 rintro e w_ ⟨rfl, hb_⟩
 have BZ := boxT BX_ hb_
 clear BX_ hb_
 have BX_ := BZ
 clear BZ
 refine hK.out _ _ ((blk_cell BX_.out.1 1).trans rfl) (fun hHeld => ?_)
 clear hK K
 (try simp only [Act.put, zq1, zq2, zq3, zq4, zq5, zq6])
 refine tkz 4 rfl ?_ (.inl ⟨by rfl, ?_⟩) ?_
 rotate_left 1
 ·intro w hSw
  have s0 := hSw
  go_simp
  (try with_reducible rfl)
 (try simp only [Act.put, zq1, zq2, zq3, zq4, zq5, zq6])
 refine tkz 6 rfl ?_ (.inl ⟨by rfl, ?_⟩) ?_
 rotate_left 1
 ·intro w hSw
  have s0 := hSw
  go_simp
  (try with_reducible rfl)
 (try simp only [Act.put, zq1, zq2, zq3, zq4, zq5, zq6])
 refine tkz 8 rfl ?_ (.inl ⟨by rfl, ?_⟩) ?_
 rotate_left 1
 ·intro w hSw
  have s0 := hSw
  go_simp
  (try with_reducible rfl)
 (try simp only [Act.put, zq1, zq2, zq3, zq4, zq5, zq6])
 refine wpAnyH_ready (rs := [11]) (by kernel_rfl) (by simp) ?_
 refine AllReadyH.cons (o := _) rfl (fun K hK => ?_) AllReadyH.nil
 go_simp
 go_at_call 79
 refine (fits_calls bp _).mono ?_
 rw [hq]
 rintro e w_ ⟨rfl, rfl⟩
 refine hK.out _ _ ((blk_cell BX_.out.1 1).trans rfl) (fun hHeld => ?_)
 clear hK K
 (try simp only [Act.put, zq1, zq2, zq3, zq4, zq5, zq6])
 refine tkz 12 rfl ?_ (.inl ⟨by rfl, ?_⟩) ?_
 rotate_left 1
 ·intro w hSw
  have s0 := hSw
  go_simp
  (try with_reducible rfl)
 (try simp only [Act.put, zq1, zq2, zq3, zq4, zq5, zq6])
 refine tkz 13 rfl ?_ (.inl ⟨by rfl, ?_⟩) ?_
 rotate_left 1
 ·intro w hSw
  have s0 := hSw
  go_simp
  (try with_reducible rfl)
 (try simp only [Act.put, zq1, zq2, zq3, zq4, zq5, zq6])
 refine tkz 14 rfl ?_ (.inl ⟨by rfl, ?_⟩) ?_
 rotate_left 1
 ·intro w hSw
  have s0 := hSw
  go_simp
  (try with_reducible rfl)
 (try simp only [Act.put, zq1, zq2, zq3, zq4, zq5, zq6])
 refine tkz 15 rfl ?_ (.inl ⟨by rfl, ?_⟩) ?_
 rotate_left 1
 ·intro w hSw
  have s0 := hSw
  go_simp
  (try with_reducible rfl)
 (try simp only [Act.put, zq1, zq2, zq3, zq4, zq5, zq6])
 refine tkz 16 rfl undef (.inr ⟨by rfl, rfl⟩) ?_
 (try simp only [Act.put, zq1, zq2, zq3, zq4, zq5, zq6])
 refine tkz 17 rfl ?_ (.inl ⟨by rfl, ?_⟩) ?_
 rotate_left 1
 ·intro w hSw
  have s0 := hSw
  go_simp
  (try with_reducible rfl)
 (try simp only [Act.put, zq1, zq2, zq3, zq4, zq5, zq6])
 refine tkz 18 rfl ?_ (.inl ⟨by rfl, ?_⟩) ?_
 rotate_left 1
 ·intro w hSw
  have s0 := hSw
  go_simp
  (try with_reducible rfl)
 (try simp only [Act.put, zq1, zq2, zq3, zq4, zq5, zq6])
 refine tkz 19 rfl undef (.inr ⟨by rfl, rfl⟩) ?_
 (try simp only [Act.put, zq1, zq2, zq3, zq4, zq5, zq6])
 refine tkz 20 rfl ?_ (.inl ⟨by rfl, ?_⟩) ?_
 rotate_left 1
 ·intro w hSw
  have s0 := hSw
  go_simp
  (try with_reducible rfl)
 (try simp only [Act.put, zq1, zq2, zq3, zq4, zq5, zq6])
 refine tkz 21 rfl ?_ (.inl ⟨by rfl, ?_⟩) ?_
 rotate_left 1
 ·intro w hSw
  have s0 := hSw
  go_simp
  (try with_reducible rfl)
 (try simp only [Act.put, zq1, zq2, zq3, zq4, zq5, zq6])
 refine tkz 22 rfl ?_ (.inl ⟨by rfl, ?_⟩) ?_
 rotate_left 1
 ·intro w hSw
  have s0 := hSw
  go_simp
  (try with_reducible rfl)
 (try simp only [Act.put, zq1, zq2, zq3, zq4, zq5, zq6])
 refine wpAnyH_done (by kernel_rfl) ?_ _
 go_wp2_with fail
 go_ret2
 exact ⟨_, _, rfl, by simp [refOk, hq, hz], by intro h; simp at h, BX_.out.2⟩
set_option maxHeartbeats 8000000 in
set_option maxRecDepth 100000 in
theorem op2_a (bp nk : Int) (l2 : List S127) (l3 : List S138) (l5 : List Int) (l6 : List ByteArray) (l7 : List Int) (A2 A3 A5 A6 A7 : Option Addr) (c2 c3 c5 c6 c7 : Nat) (w : World) (hlen : (opB (⟨2, bp, l2, l3, ⟨nk, l5, l6, l7⟩⟩ : S107)).length ≤ 140737488355328) (g2 : k127.C w A2 l2.length l2) (g3 : k138.C w A3 l3.length l3) (g5 : (Kd.int .i64).C w A5 l5.length l5) (g6 : Kd.string.C w A6 l6.length l6) (g7 : (Kd.int .i64).C w A7 l7.length l7) (hok : okOp (⟨2, bp, l2, l3, ⟨nk, l5, l6, l7⟩⟩ : S107)) (hq : noB bp = false) (hz : zeroN (⟨nk, l5, l6, l7⟩ : S105) = true) (ha : (refSets l2).2 = false) :
  Calls Try.prog 61 #[.agg #[.int .i64 2, .int .i64 bp, .slice A2 l2.length c2, .slice A3 l3.length c3, .int .i64 nk, .slice A5 l5.length c5, .slice A6 l6.length c6, .slice A7 l7.length c7]] w fun e w' => ∃ s ok, e = .returned (.tuple #[.string s, .bool ok]) ∧ ok = refOk (⟨2, bp, l2, l3, ⟨nk, l5, l6, l7⟩⟩ : S107) ∧ (ok = true → s = strB (opB (⟨2, bp, l2, l3, ⟨nk, l5, l6, l7⟩⟩ : S107))) ∧ Below w.heap.size w w' := by
 have G2 := Lib.hid g2
 have G3 := Lib.hid g3
 have G5 := Lib.hid g5
 have G6 := Lib.hid g6
 have G7 := Lib.hid g7
 have HOK := Lib.hid hok
 have HL := Lib.hid (op2_len hlen)
 clear g2 g3 g5 g6 g7 hok
 skip
 have BX_ : Hid ((w.alloc (.cells #[.int .i64 2, .int .i64 bp, .slice A2 l2.length c2, .slice A3 l3.length c3, .int .i64 nk, .slice A5 l5.length c5, .slice A6 l6.length c6, .slice A7 l7.length c7] 107)).heap[w.heap.size]? = some (.cells #[.int .i64 2, .int .i64 bp, .slice A2 l2.length c2, .slice A3 l3.length c3, .int .i64 nk, .slice A5 l5.length c5, .slice A6 l6.length c6, .slice A7 l7.length c7] 107 (0, 0)) ∧ Below w.heap.size w (w.alloc (.cells #[.int .i64 2, .int .i64 bp, .slice A2 l2.length c2, .slice A3 l3.length c3, .int .i64 nk, .slice A5 l5.length c5, .slice A6 l6.length c6, .slice A7 l7.length c7] 107))) := Lib.hid ⟨heap_alloc_new w _, (Below.refl _ _).alloc (Nat.le_refl _) _⟩
 have hsA := refSets_size l2
 have hsB := refEdits_size l3
 have hL := HL.out
 have xa : (9223372036854775807 < (strB (numB 2)).size + (strB (numB bp)).size) = False := eq_false (by rw [strB_size, strB_size]; have := numB_len 2; have := numB_len bp; omega)
 have xb : (9223372036854775807 < (strB (numB 2)).size + (strB (numB bp)).size + (refSets l2).1.size) = False := eq_false (by rw [strB_size, strB_size]; have := numB_len 2; have := numB_len bp; omega)
 have xc : (9223372036854775807 < (strB (numB 2)).size + (strB (numB bp)).size + (refSets l2).1.size + (refEdits l3).1.size) = False := eq_false (by rw [strB_size, strB_size]; have := numB_len 2; have := numB_len bp; omega)
 clear hsA hsB hL hlen
 go_enter Try.func61, Try.ntmps61
 go_wp2_with (first | (go_at_call 78; refine (same_calls (⟨nk, l5, l6, l7⟩ : S105) A5 A6 A7 c5 c6 c7 _).mono ?_; rintro e w1 ⟨rfl, hb1⟩; have BZ := boxT BX_ hb1; have z0 : w1.cell? ⟨w.heap.size, 0, none⟩ = some (.int .i64 2) := (blk_cell BZ.out.1 0).trans rfl; have z1 : w1.cell? ⟨w.heap.size, 1, none⟩ = some (.int .i64 bp) := (blk_cell BZ.out.1 1).trans rfl; have z2 : w1.cell? ⟨w.heap.size, 2, none⟩ = some (.slice A2 l2.length c2) := (blk_cell BZ.out.1 2).trans rfl; have z3 : w1.cell? ⟨w.heap.size, 3, none⟩ = some (.slice A3 l3.length c3) := (blk_cell BZ.out.1 3).trans rfl; have z4 : w1.cell? ⟨w.heap.size, 4, none⟩ = some (.int .i64 nk) := (blk_cell BZ.out.1 4).trans rfl; have z5 : w1.cell? ⟨w.heap.size, 5, none⟩ = some (.slice A5 l5.length c5) := (blk_cell BZ.out.1 5).trans rfl; have z6 : w1.cell? ⟨w.heap.size, 6, none⟩ = some (.slice A6 l6.length c6) := (blk_cell BZ.out.1 6).trans rfl; have z7 : w1.cell? ⟨w.heap.size, 7, none⟩ = some (.slice A7 l7.length c7) := (blk_cell BZ.out.1 7).trans rfl) | (go_at_call 80; refine (sets_calls l2 A2 c2 _ (Kd.C_below G2.out BZ.out.2) HOK.out.1 HL.out.1).mono ?_; rintro e w2 ⟨rfl, hb2⟩; have BW := boxT BZ hb2; have z3 : w2.cell? ⟨w.heap.size, 3, none⟩ = some (.slice A3 l3.length c3) := (blk_cell BW.out.1 3).trans rfl) | (go_at_call 81; refine (edits_calls l3 A3 c3 _ (Kd.C_below G3.out BW.out.2) HL.out.2).mono ?_; rintro e w3 ⟨rfl, hb3⟩; have BV := boxT BW hb3))
 obtain ⟨g, hgX⟩ : ∃ g, g = w.heap.size := ⟨_, rfl⟩
 rw [← hgX]
 have BG : Hid (w3.heap[g]? = some (.cells #[.int .i64 2, .int .i64 bp, .slice A2 l2.length c2, .slice A3 l3.length c3, .int .i64 nk, .slice A5 l5.length c5, .slice A6 l6.length c6, .slice A7 l7.length c7] 107 (0, 0)) ∧ Below w.heap.size w w3) := by rw [hgX]; exact BV
 clear BX_ BZ BV hb1 hb3 hgX z0 z1 z2 z3 z4 z5 z6 z7 BW hb2
 have BX_ := BG
 clear BG
 have BD := boxD BX_
 clear BX_
 have BX_ := BD
 clear BD
 refine wp_region_held_drew (S := fun w' => w'.cell? ⟨g, 1, none⟩ = some (.int .i64 bp)) (by kernel_rfl) ((blk_cell BX_.out.1 1).trans rfl) (fun hHeld => ?_)
 refine tkz 1 rfl ?_ (.inl ⟨by rfl, ?_⟩) ?_
 rotate_left 1
 ·intro w hSw
  have s0 := hSw
  go_simp
  (try with_reducible rfl)
 (try simp only [Act.put, zq1, zq2, zq3, zq4, zq5, zq6])
 refine tkz 2 rfl ?_ (.inl ⟨by rfl, ?_⟩) ?_
 rotate_left 1
 ·intro w hSw
  have s0 := hSw
  go_simp
  (try with_reducible rfl)
 (try simp only [Act.put, zq1, zq2, zq3, zq4, zq5, zq6])
 refine tkz 5 rfl ?_ (.inl ⟨by rfl, ?_⟩) ?_
 rotate_left 1
 ·intro w hSw
  have s0 := hSw
  go_simp
  (try with_reducible rfl)
 (try simp only [Act.put, zq1, zq2, zq3, zq4, zq5, zq6])
 refine tkz 7 rfl ?_ (.inl ⟨by rfl, ?_⟩) ?_
 rotate_left 1
 ·intro w hSw
  have s0 := hSw
  go_simp
  (try with_reducible rfl)
 (try simp only [Act.put, zq1, zq2, zq3, zq4, zq5, zq6])
 refine tkz 9 rfl ?_ (.inl ⟨by rfl, ?_⟩) ?_
 rotate_left 1
 ·intro w hSw
  have s0 := hSw
  go_simp
  (try with_reducible rfl)
 (try simp only [Act.put, zq1, zq2, zq3, zq4, zq5, zq6])
 refine tkz 10 rfl ?_ (.inl ⟨by rfl, ?_⟩) ?_
 rotate_left 1
 ·intro w hSw
  have s0 := hSw
  go_simp
  (try with_reducible rfl)
 (try simp only [Act.put, zq1, zq2, zq3, zq4, zq5, zq6])
 refine wpAnyH_ready (rs := [0]) (by kernel_rfl) (by simp) ?_
 refine AllReadyH.cons (o := _) rfl (fun K hK => ?_) AllReadyH.nil
 go_simp
 go_at_call 60
 refine (num_calls (2) _).mono ?_
 rintro e w_ ⟨rfl, hb_⟩
 have BZ := boxT BX_ hb_
 clear BX_ hb_
 have BX_ := BZ
 clear BZ
 refine hK.out _ _ ((blk_cell BX_.out.1 1).trans rfl) (fun hHeld => ?_)
 clear hK K
 (try simp only [Act.put, zq1, zq2, zq3, zq4, zq5, zq6])
 refine wpAnyH_ready (rs := [3]) (by kernel_rfl) (by simp) ?_
 refine AllReadyH.cons (o := _) rfl (fun K hK => ?_) AllReadyH.nil
 go_simp
 go_at_call 60
 refine (num_calls (bp) _).mono ?_
 rintro e w_ ⟨rfl, hb_⟩
 have BZ := boxT BX_ hb_
 clear BX_ hb_
 have BX_ := BZ
 clear BZ
 refine hK.out _ _ ((blk_cell BX_.out.1 1).trans rfl) (fun hHeld => ?_)
 clear hK K
 (try simp only [Act.put, zq1, zq2, zq3, zq4, zq5, zq6])
 refine tkz 4 rfl ?_ (.inl ⟨by rfl, ?_⟩) ?_
 rotate_left 1
 ·intro w hSw
  have s0 := hSw
  go_simp
  (try with_reducible rfl)
 (try simp only [Act.put, zq1, zq2, zq3, zq4, zq5, zq6])
 refine tkz 6 rfl ?_ (.inl ⟨by rfl, ?_⟩) ?_
 rotate_left 1
 ·intro w hSw
  have s0 := hSw
  go_simp
  (try with_reducible rfl)
 (try simp only [Act.put, zq1, zq2, zq3, zq4, zq5, zq6])
 refine tkz 8 rfl ?_ (.inl ⟨by rfl, ?_⟩) ?_
 rotate_left 1
 ·intro w hSw
  have s0 := hSw
  go_simp
  (try with_reducible rfl)
 (try simp only [Act.put, zq1, zq2, zq3, zq4, zq5, zq6])
 refine wpAnyH_ready (rs := [11]) (by kernel_rfl) (by simp) ?_
 refine AllReadyH.cons (o := _) rfl (fun K hK => ?_) AllReadyH.nil
 go_simp
 go_at_call 79
 refine (fits_calls bp _).mono ?_
 rw [hq]
 rintro e w_ ⟨rfl, rfl⟩
 refine hK.out _ _ ((blk_cell BX_.out.1 1).trans rfl) (fun hHeld => ?_)
 clear hK K
 (try simp only [Act.put, zq1, zq2, zq3, zq4, zq5, zq6])
 refine tkz 12 rfl ?_ (.inl ⟨by rfl, ?_⟩) ?_
 rotate_left 1
 ·intro w hSw
  have s0 := hSw
  go_simp
  (try with_reducible rfl)
 (try simp only [Act.put, zq1, zq2, zq3, zq4, zq5, zq6])
 refine tkz 13 rfl ?_ (.inl ⟨by rfl, ?_⟩) ?_
 rotate_left 1
 ·intro w hSw
  have s0 := hSw
  go_simp
  (try with_reducible rfl)
 (try simp only [Act.put, zq1, zq2, zq3, zq4, zq5, zq6])
 refine tkz 14 rfl ?_ (.inl ⟨by rfl, ?_⟩) ?_
 rotate_left 1
 ·intro w hSw
  have s0 := hSw
  go_simp
  (try with_reducible rfl)
 (try simp only [Act.put, zq1, zq2, zq3, zq4, zq5, zq6])
 refine tkz 15 rfl ?_ (.inl ⟨by rfl, ?_⟩) ?_
 rotate_left 1
 ·intro w hSw
  have s0 := hSw
  go_simp
  (try with_reducible rfl)
 (try simp only [Act.put, zq1, zq2, zq3, zq4, zq5, zq6])
 refine tkz 16 rfl ?_ (.inl ⟨by rfl, ?_⟩) ?_
 rotate_left 1
 ·intro w hSw
  have s0 := hSw
  go_simp
  (try with_reducible rfl)
 (try simp only [Act.put, zq1, zq2, zq3, zq4, zq5, zq6])
 refine tkz 17 rfl ?_ (.inl ⟨by rfl, ?_⟩) ?_
 rotate_left 1
 ·intro w hSw
  have s0 := hSw
  go_simp
  (try with_reducible rfl)
 (try simp only [Act.put, zq1, zq2, zq3, zq4, zq5, zq6])
 refine tkz 18 rfl ?_ (.inl ⟨by rfl, ?_⟩) ?_
 rotate_left 1
 ·intro w hSw
  have s0 := hSw
  go_simp
  (try with_reducible rfl)
 (try simp only [Act.put, zq1, zq2, zq3, zq4, zq5, zq6])
 refine tkz 19 rfl undef (.inr ⟨by rfl, rfl⟩) ?_
 (try simp only [Act.put, zq1, zq2, zq3, zq4, zq5, zq6])
 refine tkz 20 rfl ?_ (.inl ⟨by rfl, ?_⟩) ?_
 rotate_left 1
 ·intro w hSw
  have s0 := hSw
  go_simp
  (try with_reducible rfl)
 (try simp only [Act.put, zq1, zq2, zq3, zq4, zq5, zq6])
 refine tkz 21 rfl ?_ (.inl ⟨by rfl, ?_⟩) ?_
 rotate_left 1
 ·intro w hSw
  have s0 := hSw
  go_simp
  (try with_reducible rfl)
 (try simp only [Act.put, zq1, zq2, zq3, zq4, zq5, zq6])
 refine tkz 22 rfl ?_ (.inl ⟨by rfl, ?_⟩) ?_
 rotate_left 1
 ·intro w hSw
  have s0 := hSw
  go_simp
  (try with_reducible rfl)
 (try simp only [Act.put, zq1, zq2, zq3, zq4, zq5, zq6])
 refine wpAnyH_done (by kernel_rfl) ?_ _
 go_wp2_with fail
 go_ret2
 exact ⟨_, _, rfl, by simp [refOk, hq, hz, ha], by intro h; simp at h, BX_.out.2⟩
set_option maxHeartbeats 8000000 in
set_option maxRecDepth 100000 in
theorem op2_b (bp nk : Int) (l2 : List S127) (l3 : List S138) (l5 : List Int) (l6 : List ByteArray) (l7 : List Int) (A2 A3 A5 A6 A7 : Option Addr) (c2 c3 c5 c6 c7 : Nat) (w : World) (hlen : (opB (⟨2, bp, l2, l3, ⟨nk, l5, l6, l7⟩⟩ : S107)).length ≤ 140737488355328) (g2 : k127.C w A2 l2.length l2) (g3 : k138.C w A3 l3.length l3) (g5 : (Kd.int .i64).C w A5 l5.length l5) (g6 : Kd.string.C w A6 l6.length l6) (g7 : (Kd.int .i64).C w A7 l7.length l7) (hok : okOp (⟨2, bp, l2, l3, ⟨nk, l5, l6, l7⟩⟩ : S107)) (hq : noB bp = false) (hz : zeroN (⟨nk, l5, l6, l7⟩ : S105) = true) (ha : (refSets l2).2 = true) :
  Calls Try.prog 61 #[.agg #[.int .i64 2, .int .i64 bp, .slice A2 l2.length c2, .slice A3 l3.length c3, .int .i64 nk, .slice A5 l5.length c5, .slice A6 l6.length c6, .slice A7 l7.length c7]] w fun e w' => ∃ s ok, e = .returned (.tuple #[.string s, .bool ok]) ∧ ok = refOk (⟨2, bp, l2, l3, ⟨nk, l5, l6, l7⟩⟩ : S107) ∧ (ok = true → s = strB (opB (⟨2, bp, l2, l3, ⟨nk, l5, l6, l7⟩⟩ : S107))) ∧ Below w.heap.size w w' := by
 have G2 := Lib.hid g2
 have G3 := Lib.hid g3
 have G5 := Lib.hid g5
 have G6 := Lib.hid g6
 have G7 := Lib.hid g7
 have HOK := Lib.hid hok
 have HL := Lib.hid (op2_len hlen)
 clear g2 g3 g5 g6 g7 hok
 skip
 have BX_ : Hid ((w.alloc (.cells #[.int .i64 2, .int .i64 bp, .slice A2 l2.length c2, .slice A3 l3.length c3, .int .i64 nk, .slice A5 l5.length c5, .slice A6 l6.length c6, .slice A7 l7.length c7] 107)).heap[w.heap.size]? = some (.cells #[.int .i64 2, .int .i64 bp, .slice A2 l2.length c2, .slice A3 l3.length c3, .int .i64 nk, .slice A5 l5.length c5, .slice A6 l6.length c6, .slice A7 l7.length c7] 107 (0, 0)) ∧ Below w.heap.size w (w.alloc (.cells #[.int .i64 2, .int .i64 bp, .slice A2 l2.length c2, .slice A3 l3.length c3, .int .i64 nk, .slice A5 l5.length c5, .slice A6 l6.length c6, .slice A7 l7.length c7] 107))) := Lib.hid ⟨heap_alloc_new w _, (Below.refl _ _).alloc (Nat.le_refl _) _⟩
 have hsA := refSets_size l2
 have hsB := refEdits_size l3
 have hL := HL.out
 have xa : (9223372036854775807 < (strB (numB 2)).size + (strB (numB bp)).size) = False := eq_false (by rw [strB_size, strB_size]; have := numB_len 2; have := numB_len bp; omega)
 have xb : (9223372036854775807 < (strB (numB 2)).size + (strB (numB bp)).size + (refSets l2).1.size) = False := eq_false (by rw [strB_size, strB_size]; have := numB_len 2; have := numB_len bp; omega)
 have xc : (9223372036854775807 < (strB (numB 2)).size + (strB (numB bp)).size + (refSets l2).1.size + (refEdits l3).1.size) = False := eq_false (by rw [strB_size, strB_size]; have := numB_len 2; have := numB_len bp; omega)
 clear hsA hsB hL hlen
 go_enter Try.func61, Try.ntmps61
 go_wp2_with (first | (go_at_call 78; refine (same_calls (⟨nk, l5, l6, l7⟩ : S105) A5 A6 A7 c5 c6 c7 _).mono ?_; rintro e w1 ⟨rfl, hb1⟩; have BZ := boxT BX_ hb1; have z0 : w1.cell? ⟨w.heap.size, 0, none⟩ = some (.int .i64 2) := (blk_cell BZ.out.1 0).trans rfl; have z1 : w1.cell? ⟨w.heap.size, 1, none⟩ = some (.int .i64 bp) := (blk_cell BZ.out.1 1).trans rfl; have z2 : w1.cell? ⟨w.heap.size, 2, none⟩ = some (.slice A2 l2.length c2) := (blk_cell BZ.out.1 2).trans rfl; have z3 : w1.cell? ⟨w.heap.size, 3, none⟩ = some (.slice A3 l3.length c3) := (blk_cell BZ.out.1 3).trans rfl; have z4 : w1.cell? ⟨w.heap.size, 4, none⟩ = some (.int .i64 nk) := (blk_cell BZ.out.1 4).trans rfl; have z5 : w1.cell? ⟨w.heap.size, 5, none⟩ = some (.slice A5 l5.length c5) := (blk_cell BZ.out.1 5).trans rfl; have z6 : w1.cell? ⟨w.heap.size, 6, none⟩ = some (.slice A6 l6.length c6) := (blk_cell BZ.out.1 6).trans rfl; have z7 : w1.cell? ⟨w.heap.size, 7, none⟩ = some (.slice A7 l7.length c7) := (blk_cell BZ.out.1 7).trans rfl) | (go_at_call 80; refine (sets_calls l2 A2 c2 _ (Kd.C_below G2.out BZ.out.2) HOK.out.1 HL.out.1).mono ?_; rintro e w2 ⟨rfl, hb2⟩; have BW := boxT BZ hb2; have z3 : w2.cell? ⟨w.heap.size, 3, none⟩ = some (.slice A3 l3.length c3) := (blk_cell BW.out.1 3).trans rfl) | (go_at_call 81; refine (edits_calls l3 A3 c3 _ (Kd.C_below G3.out BW.out.2) HL.out.2).mono ?_; rintro e w3 ⟨rfl, hb3⟩; have BV := boxT BW hb3))
 obtain ⟨g, hgX⟩ : ∃ g, g = w.heap.size := ⟨_, rfl⟩
 rw [← hgX]
 have BG : Hid (w3.heap[g]? = some (.cells #[.int .i64 2, .int .i64 bp, .slice A2 l2.length c2, .slice A3 l3.length c3, .int .i64 nk, .slice A5 l5.length c5, .slice A6 l6.length c6, .slice A7 l7.length c7] 107 (0, 0)) ∧ Below w.heap.size w w3) := by rw [hgX]; exact BV
 clear BX_ BZ BV hb1 hb3 hgX z0 z1 z2 z3 z4 z5 z6 z7 BW hb2
 have BX_ := BG
 clear BG
 have BD := boxD BX_
 clear BX_
 have BX_ := BD
 clear BD
 refine wp_region_held_drew (S := fun w' => w'.cell? ⟨g, 1, none⟩ = some (.int .i64 bp)) (by kernel_rfl) ((blk_cell BX_.out.1 1).trans rfl) (fun hHeld => ?_)
 refine tkz 1 rfl ?_ (.inl ⟨by rfl, ?_⟩) ?_
 rotate_left 1
 ·intro w hSw
  have s0 := hSw
  go_simp
  (try with_reducible rfl)
 (try simp only [Act.put, zq1, zq2, zq3, zq4, zq5, zq6])
 refine tkz 2 rfl ?_ (.inl ⟨by rfl, ?_⟩) ?_
 rotate_left 1
 ·intro w hSw
  have s0 := hSw
  go_simp
  (try with_reducible rfl)
 (try simp only [Act.put, zq1, zq2, zq3, zq4, zq5, zq6])
 refine tkz 5 rfl ?_ (.inl ⟨by rfl, ?_⟩) ?_
 rotate_left 1
 ·intro w hSw
  have s0 := hSw
  go_simp
  (try with_reducible rfl)
 (try simp only [Act.put, zq1, zq2, zq3, zq4, zq5, zq6])
 refine tkz 7 rfl ?_ (.inl ⟨by rfl, ?_⟩) ?_
 rotate_left 1
 ·intro w hSw
  have s0 := hSw
  go_simp
  (try with_reducible rfl)
 (try simp only [Act.put, zq1, zq2, zq3, zq4, zq5, zq6])
 refine tkz 9 rfl ?_ (.inl ⟨by rfl, ?_⟩) ?_
 rotate_left 1
 ·intro w hSw
  have s0 := hSw
  go_simp
  (try with_reducible rfl)
 (try simp only [Act.put, zq1, zq2, zq3, zq4, zq5, zq6])
 refine tkz 10 rfl ?_ (.inl ⟨by rfl, ?_⟩) ?_
 rotate_left 1
 ·intro w hSw
  have s0 := hSw
  go_simp
  (try with_reducible rfl)
 (try simp only [Act.put, zq1, zq2, zq3, zq4, zq5, zq6])
 refine wpAnyH_ready (rs := [0]) (by kernel_rfl) (by simp) ?_
 refine AllReadyH.cons (o := _) rfl (fun K hK => ?_) AllReadyH.nil
 go_simp
 go_at_call 60
 refine (num_calls (2) _).mono ?_
 rintro e w_ ⟨rfl, hb_⟩
 have BZ := boxT BX_ hb_
 clear BX_ hb_
 have BX_ := BZ
 clear BZ
 refine hK.out _ _ ((blk_cell BX_.out.1 1).trans rfl) (fun hHeld => ?_)
 clear hK K
 (try simp only [Act.put, zq1, zq2, zq3, zq4, zq5, zq6])
 refine wpAnyH_ready (rs := [3]) (by kernel_rfl) (by simp) ?_
 refine AllReadyH.cons (o := _) rfl (fun K hK => ?_) AllReadyH.nil
 go_simp
 go_at_call 60
 refine (num_calls (bp) _).mono ?_
 rintro e w_ ⟨rfl, hb_⟩
 have BZ := boxT BX_ hb_
 clear BX_ hb_
 have BX_ := BZ
 clear BZ
 refine hK.out _ _ ((blk_cell BX_.out.1 1).trans rfl) (fun hHeld => ?_)
 clear hK K
 (try simp only [Act.put, zq1, zq2, zq3, zq4, zq5, zq6])
 refine tkz 4 rfl ?_ (.inl ⟨by rfl, ?_⟩) ?_
 rotate_left 1
 ·intro w hSw
  have s0 := hSw
  go_simp
  (try with_reducible rfl)
 (try simp only [Act.put, zq1, zq2, zq3, zq4, zq5, zq6])
 refine tkz 6 rfl ?_ (.inl ⟨by rfl, ?_⟩) ?_
 rotate_left 1
 ·intro w hSw
  have s0 := hSw
  go_simp
  (try with_reducible rfl)
 (try simp only [Act.put, zq1, zq2, zq3, zq4, zq5, zq6])
 refine tkz 8 rfl ?_ (.inl ⟨by rfl, ?_⟩) ?_
 rotate_left 1
 ·intro w hSw
  have s0 := hSw
  go_simp
  (try with_reducible rfl)
 (try simp only [Act.put, zq1, zq2, zq3, zq4, zq5, zq6])
 refine wpAnyH_ready (rs := [11]) (by kernel_rfl) (by simp) ?_
 refine AllReadyH.cons (o := _) rfl (fun K hK => ?_) AllReadyH.nil
 go_simp
 go_at_call 79
 refine (fits_calls bp _).mono ?_
 rw [hq]
 rintro e w_ ⟨rfl, rfl⟩
 refine hK.out _ _ ((blk_cell BX_.out.1 1).trans rfl) (fun hHeld => ?_)
 clear hK K
 (try simp only [Act.put, zq1, zq2, zq3, zq4, zq5, zq6])
 refine tkz 12 rfl ?_ (.inl ⟨by rfl, ?_⟩) ?_
 rotate_left 1
 ·intro w hSw
  have s0 := hSw
  go_simp
  (try with_reducible rfl)
 (try simp only [Act.put, zq1, zq2, zq3, zq4, zq5, zq6])
 refine tkz 13 rfl ?_ (.inl ⟨by rfl, ?_⟩) ?_
 rotate_left 1
 ·intro w hSw
  have s0 := hSw
  go_simp
  (try with_reducible rfl)
 (try simp only [Act.put, zq1, zq2, zq3, zq4, zq5, zq6])
 refine tkz 14 rfl ?_ (.inl ⟨by rfl, ?_⟩) ?_
 rotate_left 1
 ·intro w hSw
  have s0 := hSw
  go_simp
  (try with_reducible rfl)
 (try simp only [Act.put, zq1, zq2, zq3, zq4, zq5, zq6])
 refine tkz 15 rfl ?_ (.inl ⟨by rfl, ?_⟩) ?_
 rotate_left 1
 ·intro w hSw
  have s0 := hSw
  go_simp
  (try with_reducible rfl)
 (try simp only [Act.put, zq1, zq2, zq3, zq4, zq5, zq6])
 refine tkz 16 rfl ?_ (.inl ⟨by rfl, ?_⟩) ?_
 rotate_left 1
 ·intro w hSw
  have s0 := hSw
  go_simp
  (try with_reducible rfl)
 (try simp only [Act.put, zq1, zq2, zq3, zq4, zq5, zq6])
 refine tkz 17 rfl ?_ (.inl ⟨by rfl, ?_⟩) ?_
 rotate_left 1
 ·intro w hSw
  have s0 := hSw
  go_simp
  (try with_reducible rfl)
 (try simp only [Act.put, zq1, zq2, zq3, zq4, zq5, zq6])
 refine tkz 18 rfl ?_ (.inl ⟨by rfl, ?_⟩) ?_
 rotate_left 1
 ·intro w hSw
  have s0 := hSw
  go_simp
  (try with_reducible rfl)
 (try simp only [Act.put, zq1, zq2, zq3, zq4, zq5, zq6])
 refine tkz 19 rfl ?_ (.inl ⟨by rfl, ?_⟩) ?_
 rotate_left 1
 ·intro w hSw
  have s0 := hSw
  go_simp
  (try with_reducible rfl)
 (try simp only [Act.put, zq1, zq2, zq3, zq4, zq5, zq6])
 refine tkz 20 rfl ?_ (.inl ⟨by rfl, ?_⟩) ?_
 rotate_left 1
 ·intro w hSw
  have s0 := hSw
  go_simp
  (try with_reducible rfl)
 (try simp only [Act.put, zq1, zq2, zq3, zq4, zq5, zq6])
 refine tkz 21 rfl ?_ (.inl ⟨by rfl, ?_⟩) ?_
 rotate_left 1
 ·intro w hSw
  have s0 := hSw
  go_simp
  (try with_reducible rfl)
 (try simp only [Act.put, zq1, zq2, zq3, zq4, zq5, zq6])
 refine tkz 22 rfl ?_ (.inl ⟨by rfl, ?_⟩) ?_
 rotate_left 1
 ·intro w hSw
  have s0 := hSw
  go_simp
  (try with_reducible rfl)
 (try simp only [Act.put, zq1, zq2, zq3, zq4, zq5, zq6])
 refine wpAnyH_done (by kernel_rfl) ?_ _
 go_wp2_with fail
 go_ret2
 exact ⟨_, _, rfl, by simp [refOk, hq, hz, ha], by (intro h; rw [refSets_fst ha, refEdits_fst h]; simp only [strB_app]; congr 1; simp [opB, editsB]), BX_.out.2⟩
set_option maxHeartbeats 8000000 in
set_option maxRecDepth 100000 in
theorem op3_a (bp nk : Int) (l2 : List S127) (l3 : List S138) (l5 : List Int) (l6 : List ByteArray) (l7 : List Int) (A2 A3 A5 A6 A7 : Option Addr) (c2 c3 c5 c6 c7 : Nat) (w : World) (hlen : (opB (⟨3, bp, l2, l3, ⟨nk, l5, l6, l7⟩⟩ : S107)).length ≤ 140737488355328) (g2 : k127.C w A2 l2.length l2) (g3 : k138.C w A3 l3.length l3) (g5 : (Kd.int .i64).C w A5 l5.length l5) (g6 : Kd.string.C w A6 l6.length l6) (g7 : (Kd.int .i64).C w A7 l7.length l7) (hok : okOp (⟨3, bp, l2, l3, ⟨nk, l5, l6, l7⟩⟩ : S107)) (ha : (refNode (⟨nk, l5, l6, l7⟩ : S105)).2 = false) :
  Calls Try.prog 61 #[.agg #[.int .i64 3, .int .i64 bp, .slice A2 l2.length c2, .slice A3 l3.length c3, .int .i64 nk, .slice A5 l5.length c5, .slice A6 l6.length c6, .slice A7 l7.length c7]] w fun e w' => ∃ s ok, e = .returned (.tuple #[.string s, .bool ok]) ∧ ok = refOk (⟨3, bp, l2, l3, ⟨nk, l5, l6, l7⟩⟩ : S107) ∧ (ok = true → s = strB (opB (⟨3, bp, l2, l3, ⟨nk, l5, l6, l7⟩⟩ : S107))) ∧ Below w.heap.size w w' := by
 have G2 := Lib.hid g2
 have G3 := Lib.hid g3
 have G5 := Lib.hid g5
 have G6 := Lib.hid g6
 have G7 := Lib.hid g7
 have HOK := Lib.hid hok
 have HL := Lib.hid (op3_len hlen)
 clear g2 g3 g5 g6 g7 hok
 skip
 have BX_ : Hid ((w.alloc (.cells #[.int .i64 3, .int .i64 bp, .slice A2 l2.length c2, .slice A3 l3.length c3, .int .i64 nk, .slice A5 l5.length c5, .slice A6 l6.length c6, .slice A7 l7.length c7] 107)).heap[w.heap.size]? = some (.cells #[.int .i64 3, .int .i64 bp, .slice A2 l2.length c2, .slice A3 l3.length c3, .int .i64 nk, .slice A5 l5.length c5, .slice A6 l6.length c6, .slice A7 l7.length c7] 107 (0, 0)) ∧ Below w.heap.size w (w.alloc (.cells #[.int .i64 3, .int .i64 bp, .slice A2 l2.length c2, .slice A3 l3.length c3, .int .i64 nk, .slice A5 l5.length c5, .slice A6 l6.length c6, .slice A7 l7.length c7] 107))) := Lib.hid ⟨heap_alloc_new w _, (Below.refl _ _).alloc (Nat.le_refl _) _⟩
 have hsA := refNode_size (⟨nk, l5, l6, l7⟩ : S105)
 have hL := HL.out
 have xa : (9223372036854775807 < (strB (numB 3)).size + (refNode (⟨nk, l5, l6, l7⟩ : S105)).1.size) = False := eq_false (by rw [strB_size]; have := numB_len 3; omega)
 clear hsA hL hlen
 go_enter Try.func61, Try.ntmps61
 go_wp2_with (first | (go_at_call 78; refine (same_calls (⟨nk, l5, l6, l7⟩ : S105) A5 A6 A7 c5 c6 c7 _).mono ?_; rintro e w1 ⟨rfl, hb1⟩; have BZ := boxT BX_ hb1; have z0 : w1.cell? ⟨w.heap.size, 0, none⟩ = some (.int .i64 3) := (blk_cell BZ.out.1 0).trans rfl; have z1 : w1.cell? ⟨w.heap.size, 1, none⟩ = some (.int .i64 bp) := (blk_cell BZ.out.1 1).trans rfl; have z2 : w1.cell? ⟨w.heap.size, 2, none⟩ = some (.slice A2 l2.length c2) := (blk_cell BZ.out.1 2).trans rfl; have z3 : w1.cell? ⟨w.heap.size, 3, none⟩ = some (.slice A3 l3.length c3) := (blk_cell BZ.out.1 3).trans rfl; have z4 : w1.cell? ⟨w.heap.size, 4, none⟩ = some (.int .i64 nk) := (blk_cell BZ.out.1 4).trans rfl; have z5 : w1.cell? ⟨w.heap.size, 5, none⟩ = some (.slice A5 l5.length c5) := (blk_cell BZ.out.1 5).trans rfl; have z6 : w1.cell? ⟨w.heap.size, 6, none⟩ = some (.slice A6 l6.length c6) := (blk_cell BZ.out.1 6).trans rfl; have z7 : w1.cell? ⟨w.heap.size, 7, none⟩ = some (.slice A7 l7.length c7) := (blk_cell BZ.out.1 7).trans rfl) | (go_at_call 82; refine (refNode_calls (⟨nk, l5, l6, l7⟩ : S105) A5 A6 A7 c5 c6 c7 _ (Kd.C_below G5.out BZ.out.2) (Kd.C_below G6.out BZ.out.2) (Kd.C_below G7.out BZ.out.2) HOK.out.2 HL.out).mono ?_; rintro e w3 ⟨rfl, hb3⟩; have BV := boxT BZ hb3))
 obtain ⟨g, hgX⟩ : ∃ g, g = w.heap.size := ⟨_, rfl⟩
 rw [← hgX]
 have BG : Hid (w3.heap[g]? = some (.cells #[.int .i64 3, .int .i64 bp, .slice A2 l2.length c2, .slice A3 l3.length c3, .int .i64 nk, .slice A5 l5.length c5, .slice A6 l6.length c6, .slice A7 l7.length c7] 107 (0, 0)) ∧ Below w.heap.size w w3) := by rw [hgX]; exact BV
 clear BX_ BZ BV hb1 hb3 hgX z0 z1 z2 z3 z4 z5 z6 z7 
 have BX_ := BG
 clear BG
 have BD := boxD BX_
 clear BX_
 have BX_ := BD
 clear BD
 refine wp_region_held_drew (S := fun w' => w'.cell? ⟨g, 1, none⟩ = some (.int .i64 bp) ∧ w'.cell? ⟨g, 2, none⟩ = some (.slice A2 l2.length c2) ∧ w'.cell? ⟨g, 3, none⟩ = some (.slice A3 l3.length c3)) (by kernel_rfl) ⟨(blk_cell BX_.out.1 1).trans rfl, (blk_cell BX_.out.1 2).trans rfl, (blk_cell BX_.out.1 3).trans rfl⟩ (fun hHeld => ?_)
 refine tkz 1 rfl ?_ (.inl ⟨by rfl, ?_⟩) ?_
 rotate_left 1
 ·intro w hSw
  obtain ⟨s0, s1, s2⟩ := hSw
  go_simp
  (try with_reducible rfl)
 (try simp only [Act.put, zq1, zq2, zq3, zq4, zq5, zq6])
 refine tkz 3 rfl ?_ (.inl ⟨by rfl, ?_⟩) ?_
 rotate_left 1
 ·intro w hSw
  obtain ⟨s0, s1, s2⟩ := hSw
  go_simp
  (try with_reducible rfl)
 (try simp only [Act.put, zq1, zq2, zq3, zq4, zq5, zq6])
 refine wpAnyH_ready (rs := [0]) (by kernel_rfl) (by simp) ?_
 refine AllReadyH.cons (o := _) rfl (fun K hK => ?_) AllReadyH.nil
 go_simp
 go_at_call 60
 refine (num_calls (3) _).mono ?_
 rintro e w_ ⟨rfl, hb_⟩
 have BZ := boxT BX_ hb_
 clear BX_ hb_
 have BX_ := BZ
 clear BZ
 refine hK.out _ _ ⟨(blk_cell BX_.out.1 1).trans rfl, (blk_cell BX_.out.1 2).trans rfl, (blk_cell BX_.out.1 3).trans rfl⟩ (fun hHeld => ?_)
 clear hK K
 (try simp only [Act.put, zq1, zq2, zq3, zq4, zq5, zq6])
 refine tkz 2 rfl ?_ (.inl ⟨by rfl, ?_⟩) ?_
 rotate_left 1
 ·intro w hSw
  obtain ⟨s0, s1, s2⟩ := hSw
  go_simp
  (try with_reducible rfl)
 (try simp only [Act.put, zq1, zq2, zq3, zq4, zq5, zq6])
 refine tkz 4 rfl ?_ (.inl ⟨by rfl, ?_⟩) ?_
 rotate_left 1
 ·intro w hSw
  obtain ⟨s0, s1, s2⟩ := hSw
  go_simp
  (try with_reducible rfl)
 (try simp only [Act.put, zq1, zq2, zq3, zq4, zq5, zq6])
 refine tkz 5 rfl undef (.inr ⟨by rfl, rfl⟩) ?_
 (try simp only [Act.put, zq1, zq2, zq3, zq4, zq5, zq6])
 refine tkz 6 rfl undef (.inr ⟨by rfl, rfl⟩) ?_
 (try simp only [Act.put, zq1, zq2, zq3, zq4, zq5, zq6])
 refine tkz 7 rfl undef (.inr ⟨by rfl, rfl⟩) ?_
 (try simp only [Act.put, zq1, zq2, zq3, zq4, zq5, zq6])
 refine tkz 8 rfl ?_ (.inl ⟨by rfl, ?_⟩) ?_
 rotate_left 1
 ·intro w hSw
  obtain ⟨s0, s1, s2⟩ := hSw
  go_simp
  (try with_reducible rfl)
 (try simp only [Act.put, zq1, zq2, zq3, zq4, zq5, zq6])
 refine tkz 9 rfl ?_ (.inl ⟨by rfl, ?_⟩) ?_
 rotate_left 1
 ·intro w hSw
  obtain ⟨s0, s1, s2⟩ := hSw
  go_simp
  (try with_reducible rfl)
 (try simp only [Act.put, zq1, zq2, zq3, zq4, zq5, zq6])
 refine tkz 10 rfl undef (.inr ⟨by rfl, rfl⟩) ?_
 (try simp only [Act.put, zq1, zq2, zq3, zq4, zq5, zq6])
 refine tkz 11 rfl undef (.inr ⟨by rfl, rfl⟩) ?_
 (try simp only [Act.put, zq1, zq2, zq3, zq4, zq5, zq6])
 refine tkz 12 rfl undef (.inr ⟨by rfl, rfl⟩) ?_
 (try simp only [Act.put, zq1, zq2, zq3, zq4, zq5, zq6])
 refine tkz 13 rfl undef (.inr ⟨by rfl, rfl⟩) ?_
 (try simp only [Act.put, zq1, zq2, zq3, zq4, zq5, zq6])
 refine tkz 14 rfl ?_ (.inl ⟨by rfl, ?_⟩) ?_
 rotate_left 1
 ·intro w hSw
  obtain ⟨s0, s1, s2⟩ := hSw
  go_simp
  (try with_reducible rfl)
 (try simp only [Act.put, zq1, zq2, zq3, zq4, zq5, zq6])
 refine tkz 15 rfl ?_ (.inl ⟨by rfl, ?_⟩) ?_
 rotate_left 1
 ·intro w hSw
  obtain ⟨s0, s1, s2⟩ := hSw
  go_simp
  (try with_reducible rfl)
 (try simp only [Act.put, zq1, zq2, zq3, zq4, zq5, zq6])
 refine tkz 16 rfl undef (.inr ⟨by rfl, rfl⟩) ?_
 (try simp only [Act.put, zq1, zq2, zq3, zq4, zq5, zq6])
 refine tkz 17 rfl undef (.inr ⟨by rfl, rfl⟩) ?_
 (try simp only [Act.put, zq1, zq2, zq3, zq4, zq5, zq6])
 refine tkz 18 rfl undef (.inr ⟨by rfl, rfl⟩) ?_
 (try simp only [Act.put, zq1, zq2, zq3, zq4, zq5, zq6])
 refine tkz 19 rfl undef (.inr ⟨by rfl, rfl⟩) ?_
 (try simp only [Act.put, zq1, zq2, zq3, zq4, zq5, zq6])
 refine tkz 20 rfl ?_ (.inl ⟨by rfl, ?_⟩) ?_
 rotate_left 1
 ·intro w hSw
  obtain ⟨s0, s1, s2⟩ := hSw
  go_simp
  (try with_reducible rfl)
 (try simp only [Act.put, zq1, zq2, zq3, zq4, zq5, zq6])
 refine tkz 21 rfl ?_ (.inl ⟨by rfl, ?_⟩) ?_
 rotate_left 1
 ·intro w hSw
  obtain ⟨s0, s1, s2⟩ := hSw
  go_simp
  (try with_reducible rfl)
 (try simp only [Act.put, zq1, zq2, zq3, zq4, zq5, zq6])
 refine tkz 22 rfl ?_ (.inl ⟨by rfl, ?_⟩) ?_
 rotate_left 1
 ·intro w hSw
  obtain ⟨s0, s1, s2⟩ := hSw
  go_simp
  (try with_reducible rfl)
 (try simp only [Act.put, zq1, zq2, zq3, zq4, zq5, zq6])
 refine wpAnyH_done (by kernel_rfl) ?_ _
 go_wp2_with fail
 go_ret2
 exact ⟨_, _, rfl, by simp [refOk, ha], by intro h; simp at h, BX_.out.2⟩
set_option maxHeartbeats 8000000 in
set_option maxRecDepth 100000 in
theorem op3_p (bp nk : Int) (l2 : List S127) (l3 : List S138) (l5 : List Int) (l6 : List ByteArray) (l7 : List Int) (A2 A3 A5 A6 A7 : Option Addr) (c2 c3 c5 c6 c7 : Nat) (w : World) (hlen : (opB (⟨3, bp, l2, l3, ⟨nk, l5, l6, l7⟩⟩ : S107)).length ≤ 140737488355328) (g2 : k127.C w A2 l2.length l2) (g3 : k138.C w A3 l3.length l3) (g5 : (Kd.int .i64).C w A5 l5.length l5) (g6 : Kd.string.C w A6 l6.length l6) (g7 : (Kd.int .i64).C w A7 l7.length l7) (hok : okOp (⟨3, bp, l2, l3, ⟨nk, l5, l6, l7⟩⟩ : S107)) (ha : (refNode (⟨nk, l5, l6, l7⟩ : S105)).2 = true) (hp : bp ≠ 0) :
  Calls Try.prog 61 #[.agg #[.int .i64 3, .int .i64 bp, .slice A2 l2.length c2, .slice A3 l3.length c3, .int .i64 nk, .slice A5 l5.length c5, .slice A6 l6.length c6, .slice A7 l7.length c7]] w fun e w' => ∃ s ok, e = .returned (.tuple #[.string s, .bool ok]) ∧ ok = refOk (⟨3, bp, l2, l3, ⟨nk, l5, l6, l7⟩⟩ : S107) ∧ (ok = true → s = strB (opB (⟨3, bp, l2, l3, ⟨nk, l5, l6, l7⟩⟩ : S107))) ∧ Below w.heap.size w w' := by
 have G2 := Lib.hid g2
 have G3 := Lib.hid g3
 have G5 := Lib.hid g5
 have G6 := Lib.hid g6
 have G7 := Lib.hid g7
 have HOK := Lib.hid hok
 have HL := Lib.hid (op3_len hlen)
 clear g2 g3 g5 g6 g7 hok
 have t1 : (bp == 0) = false := beq_eq_false_iff_ne.mpr hp
 have HPB := Lib.hid hp
 clear hp
 skip
 have BX_ : Hid ((w.alloc (.cells #[.int .i64 3, .int .i64 bp, .slice A2 l2.length c2, .slice A3 l3.length c3, .int .i64 nk, .slice A5 l5.length c5, .slice A6 l6.length c6, .slice A7 l7.length c7] 107)).heap[w.heap.size]? = some (.cells #[.int .i64 3, .int .i64 bp, .slice A2 l2.length c2, .slice A3 l3.length c3, .int .i64 nk, .slice A5 l5.length c5, .slice A6 l6.length c6, .slice A7 l7.length c7] 107 (0, 0)) ∧ Below w.heap.size w (w.alloc (.cells #[.int .i64 3, .int .i64 bp, .slice A2 l2.length c2, .slice A3 l3.length c3, .int .i64 nk, .slice A5 l5.length c5, .slice A6 l6.length c6, .slice A7 l7.length c7] 107))) := Lib.hid ⟨heap_alloc_new w _, (Below.refl _ _).alloc (Nat.le_refl _) _⟩
 have hsA := refNode_size (⟨nk, l5, l6, l7⟩ : S105)
 have hL := HL.out
 have xa : (9223372036854775807 < (strB (numB 3)).size + (refNode (⟨nk, l5, l6, l7⟩ : S105)).1.size) = False := eq_false (by rw [strB_size]; have := numB_len 3; omega)
 clear hsA hL hlen
 go_enter Try.func61, Try.ntmps61
 go_wp2_with (first | (go_at_call 78; refine (same_calls (⟨nk, l5, l6, l7⟩ : S105) A5 A6 A7 c5 c6 c7 _).mono ?_; rintro e w1 ⟨rfl, hb1⟩; have BZ := boxT BX_ hb1; have z0 : w1.cell? ⟨w.heap.size, 0, none⟩ = some (.int .i64 3) := (blk_cell BZ.out.1 0).trans rfl; have z1 : w1.cell? ⟨w.heap.size, 1, none⟩ = some (.int .i64 bp) := (blk_cell BZ.out.1 1).trans rfl; have z2 : w1.cell? ⟨w.heap.size, 2, none⟩ = some (.slice A2 l2.length c2) := (blk_cell BZ.out.1 2).trans rfl; have z3 : w1.cell? ⟨w.heap.size, 3, none⟩ = some (.slice A3 l3.length c3) := (blk_cell BZ.out.1 3).trans rfl; have z4 : w1.cell? ⟨w.heap.size, 4, none⟩ = some (.int .i64 nk) := (blk_cell BZ.out.1 4).trans rfl; have z5 : w1.cell? ⟨w.heap.size, 5, none⟩ = some (.slice A5 l5.length c5) := (blk_cell BZ.out.1 5).trans rfl; have z6 : w1.cell? ⟨w.heap.size, 6, none⟩ = some (.slice A6 l6.length c6) := (blk_cell BZ.out.1 6).trans rfl; have z7 : w1.cell? ⟨w.heap.size, 7, none⟩ = some (.slice A7 l7.length c7) := (blk_cell BZ.out.1 7).trans rfl) | (go_at_call 82; refine (refNode_calls (⟨nk, l5, l6, l7⟩ : S105) A5 A6 A7 c5 c6 c7 _ (Kd.C_below G5.out BZ.out.2) (Kd.C_below G6.out BZ.out.2) (Kd.C_below G7.out BZ.out.2) HOK.out.2 HL.out).mono ?_; rintro e w3 ⟨rfl, hb3⟩; have BV := boxT BZ hb3))
 obtain ⟨g, hgX⟩ : ∃ g, g = w.heap.size := ⟨_, rfl⟩
 rw [← hgX]
 have BG : Hid (w3.heap[g]? = some (.cells #[.int .i64 3, .int .i64 bp, .slice A2 l2.length c2, .slice A3 l3.length c3, .int .i64 nk, .slice A5 l5.length c5, .slice A6 l6.length c6, .slice A7 l7.length c7] 107 (0, 0)) ∧ Below w.heap.size w w3) := by rw [hgX]; exact BV
 clear BX_ BZ BV hb1 hb3 hgX z0 z1 z2 z3 z4 z5 z6 z7 
 have BX_ := BG
 clear BG
 have BD := boxD BX_
 clear BX_
 have BX_ := BD
 clear BD
 refine wp_region_held_drew (S := fun w' => w'.cell? ⟨g, 1, none⟩ = some (.int .i64 bp) ∧ w'.cell? ⟨g, 2, none⟩ = some (.slice A2 l2.length c2) ∧ w'.cell? ⟨g, 3, none⟩ = some (.slice A3 l3.length c3)) (by kernel_rfl) ⟨(blk_cell BX_.out.1 1).trans rfl, (blk_cell BX_.out.1 2).trans rfl, (blk_cell BX_.out.1 3).trans rfl⟩ (fun hHeld => ?_)
 refine tkz 1 rfl ?_ (.inl ⟨by rfl, ?_⟩) ?_
 rotate_left 1
 ·intro w hSw
  obtain ⟨s0, s1, s2⟩ := hSw
  go_simp
  (try with_reducible rfl)
 (try simp only [Act.put, zq1, zq2, zq3, zq4, zq5, zq6])
 refine tkz 3 rfl ?_ (.inl ⟨by rfl, ?_⟩) ?_
 rotate_left 1
 ·intro w hSw
  obtain ⟨s0, s1, s2⟩ := hSw
  go_simp
  (try with_reducible rfl)
 (try simp only [Act.put, zq1, zq2, zq3, zq4, zq5, zq6])
 refine wpAnyH_ready (rs := [0]) (by kernel_rfl) (by simp) ?_
 refine AllReadyH.cons (o := _) rfl (fun K hK => ?_) AllReadyH.nil
 go_simp
 go_at_call 60
 refine (num_calls (3) _).mono ?_
 rintro e w_ ⟨rfl, hb_⟩
 have BZ := boxT BX_ hb_
 clear BX_ hb_
 have BX_ := BZ
 clear BZ
 refine hK.out _ _ ⟨(blk_cell BX_.out.1 1).trans rfl, (blk_cell BX_.out.1 2).trans rfl, (blk_cell BX_.out.1 3).trans rfl⟩ (fun hHeld => ?_)
 clear hK K
 (try simp only [Act.put, zq1, zq2, zq3, zq4, zq5, zq6])
 refine tkz 2 rfl ?_ (.inl ⟨by rfl, ?_⟩) ?_
 rotate_left 1
 ·intro w hSw
  obtain ⟨s0, s1, s2⟩ := hSw
  go_simp
  (try with_reducible rfl)
 (try simp only [Act.put, zq1, zq2, zq3, zq4, zq5, zq6])
 refine tkz 4 rfl ?_ (.inl ⟨by rfl, ?_⟩) ?_
 rotate_left 1
 ·intro w hSw
  obtain ⟨s0, s1, s2⟩ := hSw
  go_simp
  (try with_reducible rfl)
 (try simp only [Act.put, zq1, zq2, zq3, zq4, zq5, zq6])
 refine tkz 5 rfl ?_ (.inl ⟨by rfl, ?_⟩) ?_
 rotate_left 1
 ·intro w hSw
  obtain ⟨s0, s1, s2⟩ := hSw
  go_simp
  (try with_reducible rfl)
 (try simp only [Act.put, zq1, zq2, zq3, zq4, zq5, zq6])
 refine tkz 6 rfl ?_ (.inl ⟨by rfl, ?_⟩) ?_
 rotate_left 1
 ·intro w hSw
  obtain ⟨s0, s1, s2⟩ := hSw
  go_simp
  (try with_reducible rfl)
 (try simp only [Act.put, zq1, zq2, zq3, zq4, zq5, zq6])
 refine tkz 7 rfl ?_ (.inl ⟨by rfl, ?_⟩) ?_
 rotate_left 1
 ·intro w hSw
  obtain ⟨s0, s1, s2⟩ := hSw
  go_simp
  (try with_reducible rfl)
 (try simp only [Act.put, zq1, zq2, zq3, zq4, zq5, zq6])
 refine tkz 8 rfl ?_ (.inl ⟨by rfl, ?_⟩) ?_
 rotate_left 1
 ·intro w hSw
  obtain ⟨s0, s1, s2⟩ := hSw
  go_simp
  (try with_reducible rfl)
 (try simp only [Act.put, zq1, zq2, zq3, zq4, zq5, zq6])
 refine tkz 9 rfl ?_ (.inl ⟨by rfl, ?_⟩) ?_
 rotate_left 1
 ·intro w hSw
  obtain ⟨s0, s1, s2⟩ := hSw
  go_simp
  (try with_reducible rfl)
 (try simp only [Act.put, zq1, zq2, zq3, zq4, zq5, zq6])
 refine tkz 10 rfl undef (.inr ⟨by rfl, rfl⟩) ?_
 (try simp only [Act.put, zq1, zq2, zq3, zq4, zq5, zq6])
 refine tkz 11 rfl undef (.inr ⟨by rfl, rfl⟩) ?_
 (try simp only [Act.put, zq1, zq2, zq3, zq4, zq5, zq6])
 refine tkz 12 rfl undef (.inr ⟨by rfl, rfl⟩) ?_
 (try simp only [Act.put, zq1, zq2, zq3, zq4, zq5, zq6])
 refine tkz 13 rfl undef (.inr ⟨by rfl, rfl⟩) ?_
 (try simp only [Act.put, zq1, zq2, zq3, zq4, zq5, zq6])
 refine tkz 14 rfl ?_ (.inl ⟨by rfl, ?_⟩) ?_
 rotate_left 1
 ·intro w hSw
  obtain ⟨s0, s1, s2⟩ := hSw
  go_simp
  (try with_reducible rfl)
 (try simp only [Act.put, zq1, zq2, zq3, zq4, zq5, zq6])
 refine tkz 15 rfl ?_ (.inl ⟨by rfl, ?_⟩) ?_
 rotate_left 1
 ·intro w hSw
  obtain ⟨s0, s1, s2⟩ := hSw
  go_simp
  (try with_reducible rfl)
 (try simp only [Act.put, zq1, zq2, zq3, zq4, zq5, zq6])
 refine tkz 16 rfl undef (.inr ⟨by rfl, rfl⟩) ?_
 (try simp only [Act.put, zq1, zq2, zq3, zq4, zq5, zq6])
 refine tkz 17 rfl undef (.inr ⟨by rfl, rfl⟩) ?_
 (try simp only [Act.put, zq1, zq2, zq3, zq4, zq5, zq6])
 refine tkz 18 rfl undef (.inr ⟨by rfl, rfl⟩) ?_
 (try simp only [Act.put, zq1, zq2, zq3, zq4, zq5, zq6])
 refine tkz 19 rfl undef (.inr ⟨by rfl, rfl⟩) ?_
 (try simp only [Act.put, zq1, zq2, zq3, zq4, zq5, zq6])
 refine tkz 20 rfl ?_ (.inl ⟨by rfl, ?_⟩) ?_
 rotate_left 1
 ·intro w hSw
  obtain ⟨s0, s1, s2⟩ := hSw
  go_simp
  (try with_reducible rfl)
 (try simp only [Act.put, zq1, zq2, zq3, zq4, zq5, zq6])
 refine tkz 21 rfl ?_ (.inl ⟨by rfl, ?_⟩) ?_
 rotate_left 1
 ·intro w hSw
  obtain ⟨s0, s1, s2⟩ := hSw
  go_simp
  (try with_reducible rfl)
 (try simp only [Act.put, zq1, zq2, zq3, zq4, zq5, zq6])
 refine tkz 22 rfl ?_ (.inl ⟨by rfl, ?_⟩) ?_
 rotate_left 1
 ·intro w hSw
  obtain ⟨s0, s1, s2⟩ := hSw
  go_simp
  (try with_reducible rfl)
 (try simp only [Act.put, zq1, zq2, zq3, zq4, zq5, zq6])
 refine wpAnyH_done (by kernel_rfl) ?_ _
 go_wp2_with fail
 go_ret2
 exact ⟨_, _, rfl, by simp [refOk, ha, HPB.out], by intro h; simp at h, BX_.out.2⟩
set_option maxHeartbeats 8000000 in
set_option maxRecDepth 100000 in
theorem op3_s (bp nk : Int) (l2 : List S127) (l3 : List S138) (l5 : List Int) (l6 : List ByteArray) (l7 : List Int) (A2 A3 A5 A6 A7 : Option Addr) (c2 c3 c5 c6 c7 : Nat) (w : World) (hlen : (opB (⟨3, bp, l2, l3, ⟨nk, l5, l6, l7⟩⟩ : S107)).length ≤ 140737488355328) (g2 : k127.C w A2 l2.length l2) (g3 : k138.C w A3 l3.length l3) (g5 : (Kd.int .i64).C w A5 l5.length l5) (g6 : Kd.string.C w A6 l6.length l6) (g7 : (Kd.int .i64).C w A7 l7.length l7) (hok : okOp (⟨3, bp, l2, l3, ⟨nk, l5, l6, l7⟩⟩ : S107)) (ha : (refNode (⟨nk, l5, l6, l7⟩ : S105)).2 = true) (hp : bp = 0) (hs : l2.length ≠ 0) :
  Calls Try.prog 61 #[.agg #[.int .i64 3, .int .i64 bp, .slice A2 l2.length c2, .slice A3 l3.length c3, .int .i64 nk, .slice A5 l5.length c5, .slice A6 l6.length c6, .slice A7 l7.length c7]] w fun e w' => ∃ s ok, e = .returned (.tuple #[.string s, .bool ok]) ∧ ok = refOk (⟨3, bp, l2, l3, ⟨nk, l5, l6, l7⟩⟩ : S107) ∧ (ok = true → s = strB (opB (⟨3, bp, l2, l3, ⟨nk, l5, l6, l7⟩⟩ : S107))) ∧ Below w.heap.size w w' := by
 have G2 := Lib.hid g2
 have G3 := Lib.hid g3
 have G5 := Lib.hid g5
 have G6 := Lib.hid g6
 have G7 := Lib.hid g7
 have HOK := Lib.hid hok
 have HL := Lib.hid (op3_len hlen)
 clear g2 g3 g5 g6 g7 hok
 have t1 : (bp == 0) = true := beq_iff_eq.mpr hp
 have t2 : ((l2.length : Int) == 0) = false := beq_eq_false_iff_ne.mpr (by omega)
 have HPB := Lib.hid hp
 have HS := Lib.hid hs
 clear hp hs
 skip
 have BX_ : Hid ((w.alloc (.cells #[.int .i64 3, .int .i64 bp, .slice A2 l2.length c2, .slice A3 l3.length c3, .int .i64 nk, .slice A5 l5.length c5, .slice A6 l6.length c6, .slice A7 l7.length c7] 107)).heap[w.heap.size]? = some (.cells #[.int .i64 3, .int .i64 bp, .slice A2 l2.length c2, .slice A3 l3.length c3, .int .i64 nk, .slice A5 l5.length c5, .slice A6 l6.length c6, .slice A7 l7.length c7] 107 (0, 0)) ∧ Below w.heap.size w (w.alloc (.cells #[.int .i64 3, .int .i64 bp, .slice A2 l2.length c2, .slice A3 l3.length c3, .int .i64 nk, .slice A5 l5.length c5, .slice A6 l6.length c6, .slice A7 l7.length c7] 107))) := Lib.hid ⟨heap_alloc_new w _, (Below.refl _ _).alloc (Nat.le_refl _) _⟩
 have hsA := refNode_size (⟨nk, l5, l6, l7⟩ : S105)
 have hL := HL.out
 have xa : (9223372036854775807 < (strB (numB 3)).size + (refNode (⟨nk, l5, l6, l7⟩ : S105)).1.size) = False := eq_false (by rw [strB_size]; have := numB_len 3; omega)
 clear hsA hL hlen
 go_enter Try.func61, Try.ntmps61
 go_wp2_with (first | (go_at_call 78; refine (same_calls (⟨nk, l5, l6, l7⟩ : S105) A5 A6 A7 c5 c6 c7 _).mono ?_; rintro e w1 ⟨rfl, hb1⟩; have BZ := boxT BX_ hb1; have z0 : w1.cell? ⟨w.heap.size, 0, none⟩ = some (.int .i64 3) := (blk_cell BZ.out.1 0).trans rfl; have z1 : w1.cell? ⟨w.heap.size, 1, none⟩ = some (.int .i64 bp) := (blk_cell BZ.out.1 1).trans rfl; have z2 : w1.cell? ⟨w.heap.size, 2, none⟩ = some (.slice A2 l2.length c2) := (blk_cell BZ.out.1 2).trans rfl; have z3 : w1.cell? ⟨w.heap.size, 3, none⟩ = some (.slice A3 l3.length c3) := (blk_cell BZ.out.1 3).trans rfl; have z4 : w1.cell? ⟨w.heap.size, 4, none⟩ = some (.int .i64 nk) := (blk_cell BZ.out.1 4).trans rfl; have z5 : w1.cell? ⟨w.heap.size, 5, none⟩ = some (.slice A5 l5.length c5) := (blk_cell BZ.out.1 5).trans rfl; have z6 : w1.cell? ⟨w.heap.size, 6, none⟩ = some (.slice A6 l6.length c6) := (blk_cell BZ.out.1 6).trans rfl; have z7 : w1.cell? ⟨w.heap.size, 7, none⟩ = some (.slice A7 l7.length c7) := (blk_cell BZ.out.1 7).trans rfl) | (go_at_call 82; refine (refNode_calls (⟨nk, l5, l6, l7⟩ : S105) A5 A6 A7 c5 c6 c7 _ (Kd.C_below G5.out BZ.out.2) (Kd.C_below G6.out BZ.out.2) (Kd.C_below G7.out BZ.out.2) HOK.out.2 HL.out).mono ?_; rintro e w3 ⟨rfl, hb3⟩; have BV := boxT BZ hb3))
 obtain ⟨g, hgX⟩ : ∃ g, g = w.heap.size := ⟨_, rfl⟩
 rw [← hgX]
 have BG : Hid (w3.heap[g]? = some (.cells #[.int .i64 3, .int .i64 bp, .slice A2 l2.length c2, .slice A3 l3.length c3, .int .i64 nk, .slice A5 l5.length c5, .slice A6 l6.length c6, .slice A7 l7.length c7] 107 (0, 0)) ∧ Below w.heap.size w w3) := by rw [hgX]; exact BV
 clear BX_ BZ BV hb1 hb3 hgX z0 z1 z2 z3 z4 z5 z6 z7 
 have BX_ := BG
 clear BG
 have BD := boxD BX_
 clear BX_
 have BX_ := BD
 clear BD
 refine wp_region_held_drew (S := fun w' => w'.cell? ⟨g, 1, none⟩ = some (.int .i64 bp) ∧ w'.cell? ⟨g, 2, none⟩ = some (.slice A2 l2.length c2) ∧ w'.cell? ⟨g, 3, none⟩ = some (.slice A3 l3.length c3)) (by kernel_rfl) ⟨(blk_cell BX_.out.1 1).trans rfl, (blk_cell BX_.out.1 2).trans rfl, (blk_cell BX_.out.1 3).trans rfl⟩ (fun hHeld => ?_)
 refine tkz 1 rfl ?_ (.inl ⟨by rfl, ?_⟩) ?_
 rotate_left 1
 ·intro w hSw
  obtain ⟨s0, s1, s2⟩ := hSw
  go_simp
  (try with_reducible rfl)
 (try simp only [Act.put, zq1, zq2, zq3, zq4, zq5, zq6])
 refine tkz 3 rfl ?_ (.inl ⟨by rfl, ?_⟩) ?_
 rotate_left 1
 ·intro w hSw
  obtain ⟨s0, s1, s2⟩ := hSw
  go_simp
  (try with_reducible rfl)
 (try simp only [Act.put, zq1, zq2, zq3, zq4, zq5, zq6])
 refine wpAnyH_ready (rs := [0]) (by kernel_rfl) (by simp) ?_
 refine AllReadyH.cons (o := _) rfl (fun K hK => ?_) AllReadyH.nil
 go_simp
 go_at_call 60
 refine (num_calls (3) _).mono ?_
 rintro e w_ ⟨rfl, hb_⟩
 have BZ := boxT BX_ hb_
 clear BX_ hb_
 have BX_ := BZ
 clear BZ
 refine hK.out _ _ ⟨(blk_cell BX_.out.1 1).trans rfl, (blk_cell BX_.out.1 2).trans rfl, (blk_cell BX_.out.1 3).trans rfl⟩ (fun hHeld => ?_)
 clear hK K
 (try simp only [Act.put, zq1, zq2, zq3, zq4, zq5, zq6])
 refine tkz 2 rfl ?_ (.inl ⟨by rfl, ?_⟩) ?_
 rotate_left 1
 ·intro w hSw
  obtain ⟨s0, s1, s2⟩ := hSw
  go_simp
  (try with_reducible rfl)
 (try simp only [Act.put, zq1, zq2, zq3, zq4, zq5, zq6])
 refine tkz 4 rfl ?_ (.inl ⟨by rfl, ?_⟩) ?_
 rotate_left 1
 ·intro w hSw
  obtain ⟨s0, s1, s2⟩ := hSw
  go_simp
  (try with_reducible rfl)
 (try simp only [Act.put, zq1, zq2, zq3, zq4, zq5, zq6])
 refine tkz 5 rfl ?_ (.inl ⟨by rfl, ?_⟩) ?_
 rotate_left 1
 ·intro w hSw
  obtain ⟨s0, s1, s2⟩ := hSw
  go_simp
  (try with_reducible rfl)
 (try simp only [Act.put, zq1, zq2, zq3, zq4, zq5, zq6])
 refine tkz 6 rfl ?_ (.inl ⟨by rfl, ?_⟩) ?_
 rotate_left 1
 ·intro w hSw
  obtain ⟨s0, s1, s2⟩ := hSw
  go_simp
  (try with_reducible rfl)
 (try simp only [Act.put, zq1, zq2, zq3, zq4, zq5, zq6])
 refine tkz 7 rfl ?_ (.inl ⟨by rfl, ?_⟩) ?_
 rotate_left 1
 ·intro w hSw
  obtain ⟨s0, s1, s2⟩ := hSw
  go_simp
  (try with_reducible rfl)
 (try simp only [Act.put, zq1, zq2, zq3, zq4, zq5, zq6])
 refine tkz 8 rfl ?_ (.inl ⟨by rfl, ?_⟩) ?_
 rotate_left 1
 ·intro w hSw
  obtain ⟨s0, s1, s2⟩ := hSw
  go_simp
  (try with_reducible rfl)
 (try simp only [Act.put, zq1, zq2, zq3, zq4, zq5, zq6])
 refine tkz 9 rfl ?_ (.inl ⟨by rfl, ?_⟩) ?_
 rotate_left 1
 ·intro w hSw
  obtain ⟨s0, s1, s2⟩ := hSw
  go_simp
  (try with_reducible rfl)
 (try simp only [Act.put, zq1, zq2, zq3, zq4, zq5, zq6])
 refine tkz 10 rfl ?_ (.inl ⟨by rfl, ?_⟩) ?_
 rotate_left 1
 ·intro w hSw
  obtain ⟨s0, s1, s2⟩ := hSw
  go_simp
  (try with_reducible rfl)
 (try simp only [Act.put, zq1, zq2, zq3, zq4, zq5, zq6])
 refine tkz 11 rfl ?_ (.inl ⟨by rfl, ?_⟩) ?_
 rotate_left 1
 ·intro w hSw
  obtain ⟨s0, s1, s2⟩ := hSw
  go_simp
  (try with_reducible rfl)
 (try simp only [Act.put, zq1, zq2, zq3, zq4, zq5, zq6])
 refine tkz 12 rfl ?_ (.inl ⟨by rfl, ?_⟩) ?_
 rotate_left 1
 ·intro w hSw
  obtain ⟨s0, s1, s2⟩ := hSw
  go_simp
  (try with_reducible rfl)
 (try simp only [Act.put, zq1, zq2, zq3, zq4, zq5, zq6])
 refine tkz 13 rfl ?_ (.inl ⟨by rfl, ?_⟩) ?_
 rotate_left 1
 ·intro w hSw
  obtain ⟨s0, s1, s2⟩ := hSw
  go_simp
  (try with_reducible rfl)
 (try simp only [Act.put, zq1, zq2, zq3, zq4, zq5, zq6])
 refine tkz 14 rfl ?_ (.inl ⟨by rfl, ?_⟩) ?_
 rotate_left 1
 ·intro w hSw
  obtain ⟨s0, s1, s2⟩ := hSw
  go_simp
  (try with_reducible rfl)
 (try simp only [Act.put, zq1, zq2, zq3, zq4, zq5, zq6])
 refine tkz 15 rfl ?_ (.inl ⟨by rfl, ?_⟩) ?_
 rotate_left 1
 ·intro w hSw
  obtain ⟨s0, s1, s2⟩ := hSw
  go_simp
  (try with_reducible rfl)
 (try simp only [Act.put, zq1, zq2, zq3, zq4, zq5, zq6])
 refine tkz 16 rfl undef (.inr ⟨by rfl, rfl⟩) ?_
 (try simp only [Act.put, zq1, zq2, zq3, zq4, zq5, zq6])
 refine tkz 17 rfl undef (.inr ⟨by rfl, rfl⟩) ?_
 (try simp only [Act.put, zq1, zq2, zq3, zq4, zq5, zq6])
 refine tkz 18 rfl undef (.inr ⟨by rfl, rfl⟩) ?_
 (try simp only [Act.put, zq1, zq2, zq3, zq4, zq5, zq6])
 refine tkz 19 rfl undef (.inr ⟨by rfl, rfl⟩) ?_
 (try simp only [Act.put, zq1, zq2, zq3, zq4, zq5, zq6])
 refine tkz 20 rfl ?_ (.inl ⟨by rfl, ?_⟩) ?_
 rotate_left 1
 ·intro w hSw
  obtain ⟨s0, s1, s2⟩ := hSw
  go_simp
  (try with_reducible rfl)
 (try simp only [Act.put, zq1, zq2, zq3, zq4, zq5, zq6])
 refine tkz 21 rfl ?_ (.inl ⟨by rfl, ?_⟩) ?_
 rotate_left 1
 ·intro w hSw
  obtain ⟨s0, s1, s2⟩ := hSw
  go_simp
  (try with_reducible rfl)
 (try simp only [Act.put, zq1, zq2, zq3, zq4, zq5, zq6])
 refine tkz 22 rfl ?_ (.inl ⟨by rfl, ?_⟩) ?_
 rotate_left 1
 ·intro w hSw
  obtain ⟨s0, s1, s2⟩ := hSw
  go_simp
  (try with_reducible rfl)
 (try simp only [Act.put, zq1, zq2, zq3, zq4, zq5, zq6])
 refine wpAnyH_done (by kernel_rfl) ?_ _
 go_wp2_with fail
 go_ret2
 exact ⟨_, _, rfl, by (unfold refOk; simp only [show ¬ (3 : Int) = 1 by decide, show ¬ (3 : Int) = 2 by decide, if_false, if_true, ha]; rw [decide_eq_false HS.out]; simp), by intro h; simp at h, BX_.out.2⟩
set_option maxHeartbeats 8000000 in
set_option maxRecDepth 100000 in
theorem op3_t (bp nk : Int) (l2 : List S127) (l3 : List S138) (l5 : List Int) (l6 : List ByteArray) (l7 : List Int) (A2 A3 A5 A6 A7 : Option Addr) (c2 c3 c5 c6 c7 : Nat) (w : World) (hlen : (opB (⟨3, bp, l2, l3, ⟨nk, l5, l6, l7⟩⟩ : S107)).length ≤ 140737488355328) (g2 : k127.C w A2 l2.length l2) (g3 : k138.C w A3 l3.length l3) (g5 : (Kd.int .i64).C w A5 l5.length l5) (g6 : Kd.string.C w A6 l6.length l6) (g7 : (Kd.int .i64).C w A7 l7.length l7) (hok : okOp (⟨3, bp, l2, l3, ⟨nk, l5, l6, l7⟩⟩ : S107)) (ha : (refNode (⟨nk, l5, l6, l7⟩ : S105)).2 = true) (hp : bp = 0) (hs : l2.length = 0) :
  Calls Try.prog 61 #[.agg #[.int .i64 3, .int .i64 bp, .slice A2 l2.length c2, .slice A3 l3.length c3, .int .i64 nk, .slice A5 l5.length c5, .slice A6 l6.length c6, .slice A7 l7.length c7]] w fun e w' => ∃ s ok, e = .returned (.tuple #[.string s, .bool ok]) ∧ ok = refOk (⟨3, bp, l2, l3, ⟨nk, l5, l6, l7⟩⟩ : S107) ∧ (ok = true → s = strB (opB (⟨3, bp, l2, l3, ⟨nk, l5, l6, l7⟩⟩ : S107))) ∧ Below w.heap.size w w' := by
 have G2 := Lib.hid g2
 have G3 := Lib.hid g3
 have G5 := Lib.hid g5
 have G6 := Lib.hid g6
 have G7 := Lib.hid g7
 have HOK := Lib.hid hok
 have HL := Lib.hid (op3_len hlen)
 clear g2 g3 g5 g6 g7 hok
 have t1 : (bp == 0) = true := beq_iff_eq.mpr hp
 have t2 : ((l2.length : Int) == 0) = true := beq_iff_eq.mpr (by omega)
 have HPB := Lib.hid hp
 have HS := Lib.hid hs
 clear hp hs
 skip
 have BX_ : Hid ((w.alloc (.cells #[.int .i64 3, .int .i64 bp, .slice A2 l2.length c2, .slice A3 l3.length c3, .int .i64 nk, .slice A5 l5.length c5, .slice A6 l6.length c6, .slice A7 l7.length c7] 107)).heap[w.heap.size]? = some (.cells #[.int .i64 3, .int .i64 bp, .slice A2 l2.length c2, .slice A3 l3.length c3, .int .i64 nk, .slice A5 l5.length c5, .slice A6 l6.length c6, .slice A7 l7.length c7] 107 (0, 0)) ∧ Below w.heap.size w (w.alloc (.cells #[.int .i64 3, .int .i64 bp, .slice A2 l2.length c2, .slice A3 l3.length c3, .int .i64 nk, .slice A5 l5.length c5, .slice A6 l6.length c6, .slice A7 l7.length c7] 107))) := Lib.hid ⟨heap_alloc_new w _, (Below.refl _ _).alloc (Nat.le_refl _) _⟩
 have hsA := refNode_size (⟨nk, l5, l6, l7⟩ : S105)
 have hL := HL.out
 have xa : (9223372036854775807 < (strB (numB 3)).size + (refNode (⟨nk, l5, l6, l7⟩ : S105)).1.size) = False := eq_false (by rw [strB_size]; have := numB_len 3; omega)
 clear hsA hL hlen
 go_enter Try.func61, Try.ntmps61
 go_wp2_with (first | (go_at_call 78; refine (same_calls (⟨nk, l5, l6, l7⟩ : S105) A5 A6 A7 c5 c6 c7 _).mono ?_; rintro e w1 ⟨rfl, hb1⟩; have BZ := boxT BX_ hb1; have z0 : w1.cell? ⟨w.heap.size, 0, none⟩ = some (.int .i64 3) := (blk_cell BZ.out.1 0).trans rfl; have z1 : w1.cell? ⟨w.heap.size, 1, none⟩ = some (.int .i64 bp) := (blk_cell BZ.out.1 1).trans rfl; have z2 : w1.cell? ⟨w.heap.size, 2, none⟩ = some (.slice A2 l2.length c2) := (blk_cell BZ.out.1 2).trans rfl; have z3 : w1.cell? ⟨w.heap.size, 3, none⟩ = some (.slice A3 l3.length c3) := (blk_cell BZ.out.1 3).trans rfl; have z4 : w1.cell? ⟨w.heap.size, 4, none⟩ = some (.int .i64 nk) := (blk_cell BZ.out.1 4).trans rfl; have z5 : w1.cell? ⟨w.heap.size, 5, none⟩ = some (.slice A5 l5.length c5) := (blk_cell BZ.out.1 5).trans rfl; have z6 : w1.cell? ⟨w.heap.size, 6, none⟩ = some (.slice A6 l6.length c6) := (blk_cell BZ.out.1 6).trans rfl; have z7 : w1.cell? ⟨w.heap.size, 7, none⟩ = some (.slice A7 l7.length c7) := (blk_cell BZ.out.1 7).trans rfl) | (go_at_call 82; refine (refNode_calls (⟨nk, l5, l6, l7⟩ : S105) A5 A6 A7 c5 c6 c7 _ (Kd.C_below G5.out BZ.out.2) (Kd.C_below G6.out BZ.out.2) (Kd.C_below G7.out BZ.out.2) HOK.out.2 HL.out).mono ?_; rintro e w3 ⟨rfl, hb3⟩; have BV := boxT BZ hb3))
 obtain ⟨g, hgX⟩ : ∃ g, g = w.heap.size := ⟨_, rfl⟩
 rw [← hgX]
 have BG : Hid (w3.heap[g]? = some (.cells #[.int .i64 3, .int .i64 bp, .slice A2 l2.length c2, .slice A3 l3.length c3, .int .i64 nk, .slice A5 l5.length c5, .slice A6 l6.length c6, .slice A7 l7.length c7] 107 (0, 0)) ∧ Below w.heap.size w w3) := by rw [hgX]; exact BV
 clear BX_ BZ BV hb1 hb3 hgX z0 z1 z2 z3 z4 z5 z6 z7 
 have BX_ := BG
 clear BG
 have BD := boxD BX_
 clear BX_
 have BX_ := BD
 clear BD
 refine wp_region_held_drew (S := fun w' => w'.cell? ⟨g, 1, none⟩ = some (.int .i64 bp) ∧ w'.cell? ⟨g, 2, none⟩ = some (.slice A2 l2.length c2) ∧ w'.cell? ⟨g, 3, none⟩ = some (.slice A3 l3.length c3)) (by kernel_rfl) ⟨(blk_cell BX_.out.1 1).trans rfl, (blk_cell BX_.out.1 2).trans rfl, (blk_cell BX_.out.1 3).trans rfl⟩ (fun hHeld => ?_)
 refine tkz 1 rfl ?_ (.inl ⟨by rfl, ?_⟩) ?_
 rotate_left 1
 ·intro w hSw
  obtain ⟨s0, s1, s2⟩ := hSw
  go_simp
  (try with_reducible rfl)
 (try simp only [Act.put, zq1, zq2, zq3, zq4, zq5, zq6])
 refine tkz 3 rfl ?_ (.inl ⟨by rfl, ?_⟩) ?_
 rotate_left 1
 ·intro w hSw
  obtain ⟨s0, s1, s2⟩ := hSw
  go_simp
  (try with_reducible rfl)
 (try simp only [Act.put, zq1, zq2, zq3, zq4, zq5, zq6])
 refine wpAnyH_ready (rs := [0]) (by kernel_rfl) (by simp) ?_
 refine AllReadyH.cons (o := _) rfl (fun K hK => ?_) AllReadyH.nil
 go_simp
 go_at_call 60
 refine (num_calls (3) _).mono ?_
 rintro e w_ ⟨rfl, hb_⟩
 have BZ := boxT BX_ hb_
 clear BX_ hb_
 have BX_ := BZ
 clear BZ
 refine hK.out _ _ ⟨(blk_cell BX_.out.1 1).trans rfl, (blk_cell BX_.out.1 2).trans rfl, (blk_cell BX_.out.1 3).trans rfl⟩ (fun hHeld => ?_)
 clear hK K
 (try simp only [Act.put, zq1, zq2, zq3, zq4, zq5, zq6])
 refine tkz 2 rfl ?_ (.inl ⟨by rfl, ?_⟩) ?_
 rotate_left 1
 ·intro w hSw
  obtain ⟨s0, s1, s2⟩ := hSw
  go_simp
  (try with_reducible rfl)
 (try simp only [Act.put, zq1, zq2, zq3, zq4, zq5, zq6])
 refine tkz 4 rfl ?_ (.inl ⟨by rfl, ?_⟩) ?_
 rotate_left 1
 ·intro w hSw
  obtain ⟨s0, s1, s2⟩ := hSw
  go_simp
  (try with_reducible rfl)
 (try simp only [Act.put, zq1, zq2, zq3, zq4, zq5, zq6])
 refine tkz 5 rfl ?_ (.inl ⟨by rfl, ?_⟩) ?_
 rotate_left 1
 ·intro w hSw
  obtain ⟨s0, s1, s2⟩ := hSw
  go_simp
  (try with_reducible rfl)
 (try simp only [Act.put, zq1, zq2, zq3, zq4, zq5, zq6])
 refine tkz 6 rfl ?_ (.inl ⟨by rfl, ?_⟩) ?_
 rotate_left 1
 ·intro w hSw
  obtain ⟨s0, s1, s2⟩ := hSw
  go_simp
  (try with_reducible rfl)
 (try simp only [Act.put, zq1, zq2, zq3, zq4, zq5, zq6])
 refine tkz 7 rfl ?_ (.inl ⟨by rfl, ?_⟩) ?_
 rotate_left 1
 ·intro w hSw
  obtain ⟨s0, s1, s2⟩ := hSw
  go_simp
  (try with_reducible rfl)
 (try simp only [Act.put, zq1, zq2, zq3, zq4, zq5, zq6])
 refine tkz 8 rfl ?_ (.inl ⟨by rfl, ?_⟩) ?_
 rotate_left 1
 ·intro w hSw
  obtain ⟨s0, s1, s2⟩ := hSw
  go_simp
  (try with_reducible rfl)
 (try simp only [Act.put, zq1, zq2, zq3, zq4, zq5, zq6])
 refine tkz 9 rfl ?_ (.inl ⟨by rfl, ?_⟩) ?_
 rotate_left 1
 ·intro w hSw
  obtain ⟨s0, s1, s2⟩ := hSw
  go_simp
  (try with_reducible rfl)
 (try simp only [Act.put, zq1, zq2, zq3, zq4, zq5, zq6])
 refine tkz 10 rfl ?_ (.inl ⟨by rfl, ?_⟩) ?_
 rotate_left 1
 ·intro w hSw
  obtain ⟨s0, s1, s2⟩ := hSw
  go_simp
  (try with_reducible rfl)
 (try simp only [Act.put, zq1, zq2, zq3, zq4, zq5, zq6])
 refine tkz 11 rfl ?_ (.inl ⟨by rfl, ?_⟩) ?_
 rotate_left 1
 ·intro w hSw
  obtain ⟨s0, s1, s2⟩ := hSw
  go_simp
  (try with_reducible rfl)
 (try simp only [Act.put, zq1, zq2, zq3, zq4, zq5, zq6])
 refine tkz 12 rfl ?_ (.inl ⟨by rfl, ?_⟩) ?_
 rotate_left 1
 ·intro w hSw
  obtain ⟨s0, s1, s2⟩ := hSw
  go_simp
  (try with_reducible rfl)
 (try simp only [Act.put, zq1, zq2, zq3, zq4, zq5, zq6])
 refine tkz 13 rfl ?_ (.inl ⟨by rfl, ?_⟩) ?_
 rotate_left 1
 ·intro w hSw
  obtain ⟨s0, s1, s2⟩ := hSw
  go_simp
  (try with_reducible rfl)
 (try simp only [Act.put, zq1, zq2, zq3, zq4, zq5, zq6])
 refine tkz 14 rfl ?_ (.inl ⟨by rfl, ?_⟩) ?_
 rotate_left 1
 ·intro w hSw
  obtain ⟨s0, s1, s2⟩ := hSw
  go_simp
  (try with_reducible rfl)
 (try simp only [Act.put, zq1, zq2, zq3, zq4, zq5, zq6])
 refine tkz 15 rfl ?_ (.inl ⟨by rfl, ?_⟩) ?_
 rotate_left 1
 ·intro w hSw
  obtain ⟨s0, s1, s2⟩ := hSw
  go_simp
  (try with_reducible rfl)
 (try simp only [Act.put, zq1, zq2, zq3, zq4, zq5, zq6])
 refine tkz 16 rfl ?_ (.inl ⟨by rfl, ?_⟩) ?_
 rotate_left 1
 ·intro w hSw
  obtain ⟨s0, s1, s2⟩ := hSw
  go_simp
  (try with_reducible rfl)
 (try simp only [Act.put, zq1, zq2, zq3, zq4, zq5, zq6])
 refine tkz 17 rfl ?_ (.inl ⟨by rfl, ?_⟩) ?_
 rotate_left 1
 ·intro w hSw
  obtain ⟨s0, s1, s2⟩ := hSw
  go_simp
  (try with_reducible rfl)
 (try simp only [Act.put, zq1, zq2, zq3, zq4, zq5, zq6])
 refine tkz 18 rfl ?_ (.inl ⟨by rfl, ?_⟩) ?_
 rotate_left 1
 ·intro w hSw
  obtain ⟨s0, s1, s2⟩ := hSw
  go_simp
  (try with_reducible rfl)
 (try simp only [Act.put, zq1, zq2, zq3, zq4, zq5, zq6])
 refine tkz 19 rfl ?_ (.inl ⟨by rfl, ?_⟩) ?_
 rotate_left 1
 ·intro w hSw
  obtain ⟨s0, s1, s2⟩ := hSw
  go_simp
  (try with_reducible rfl)
 (try simp only [Act.put, zq1, zq2, zq3, zq4, zq5, zq6])
 refine tkz 20 rfl ?_ (.inl ⟨by rfl, ?_⟩) ?_
 rotate_left 1
 ·intro w hSw
  obtain ⟨s0, s1, s2⟩ := hSw
  go_simp
  (try with_reducible rfl)
 (try simp only [Act.put, zq1, zq2, zq3, zq4, zq5, zq6])
 refine tkz 21 rfl ?_ (.inl ⟨by rfl, ?_⟩) ?_
 rotate_left 1
 ·intro w hSw
  obtain ⟨s0, s1, s2⟩ := hSw
  go_simp
  (try with_reducible rfl)
 (try simp only [Act.put, zq1, zq2, zq3, zq4, zq5, zq6])
 refine tkz 22 rfl ?_ (.inl ⟨by rfl, ?_⟩) ?_
 rotate_left 1
 ·intro w hSw
  obtain ⟨s0, s1, s2⟩ := hSw
  go_simp
  (try with_reducible rfl)
 (try simp only [Act.put, zq1, zq2, zq3, zq4, zq5, zq6])
 refine wpAnyH_done (by kernel_rfl) ?_ _
 go_wp2_with fail
 go_ret2
 exact ⟨_, _, rfl, by (unfold refOk; simp only [show ¬ (3 : Int) = 1 by decide, show ¬ (3 : Int) = 2 by decide, if_false, if_true, ha]; rw [decide_eq_true HS.out, decide_eq_true HPB.out]; exact d4 _), by (intro _; rw [refNode_fst ha, strB_app]; simp [opB]), BX_.out.2⟩
set_option maxHeartbeats 8000000 in
set_option maxRecDepth 100000 in
theorem opx (kd bp nk : Int) (l2 : List S127) (l3 : List S138) (l5 : List Int) (l6 : List ByteArray) (l7 : List Int) (A2 A3 A5 A6 A7 : Option Addr) (c2 c3 c5 c6 c7 : Nat) (w : World) (h1 : kd ≠ 1) (h2 : kd ≠ 2) (h3 : kd ≠ 3) :
  Calls Try.prog 61 #[.agg #[.int .i64 kd, .int .i64 bp, .slice A2 l2.length c2, .slice A3 l3.length c3, .int .i64 nk, .slice A5 l5.length c5, .slice A6 l6.length c6, .slice A7 l7.length c7]] w fun e w' => ∃ s ok, e = .returned (.tuple #[.string s, .bool ok]) ∧ ok = refOk (⟨kd, bp, l2, l3, ⟨nk, l5, l6, l7⟩⟩ : S107) ∧ (ok = true → s = strB (opB (⟨kd, bp, l2, l3, ⟨nk, l5, l6, l7⟩⟩ : S107))) ∧ Below w.heap.size w w' := by
 have t1 : (kd == 1) = false := beq_eq_false_iff_ne.mpr h1
 have t2 : (kd == 2) = false := beq_eq_false_iff_ne.mpr h2
 have t3 : (kd == 3) = false := beq_eq_false_iff_ne.mpr h3
 have HK1 := Lib.hid h1
 have HK2 := Lib.hid h2
 have HK3 := Lib.hid h3
 clear h1 h2 h3
 skip
 have BX_ : Hid ((w.alloc (.cells #[.int .i64 kd, .int .i64 bp, .slice A2 l2.length c2, .slice A3 l3.length c3, .int .i64 nk, .slice A5 l5.length c5, .slice A6 l6.length c6, .slice A7 l7.length c7] 107)).heap[w.heap.size]? = some (.cells #[.int .i64 kd, .int .i64 bp, .slice A2 l2.length c2, .slice A3 l3.length c3, .int .i64 nk, .slice A5 l5.length c5, .slice A6 l6.length c6, .slice A7 l7.length c7] 107 (0, 0)) ∧ Below w.heap.size w (w.alloc (.cells #[.int .i64 kd, .int .i64 bp, .slice A2 l2.length c2, .slice A3 l3.length c3, .int .i64 nk, .slice A5 l5.length c5, .slice A6 l6.length c6, .slice A7 l7.length c7] 107))) := Lib.hid ⟨heap_alloc_new w _, (Below.refl _ _).alloc (Nat.le_refl _) _⟩
 go_enter Try.func61, Try.ntmps61
 go_wp2_with (go_at_call 78; refine (same_calls (⟨nk, l5, l6, l7⟩ : S105) A5 A6 A7 c5 c6 c7 _).mono ?_; rintro e w1 ⟨rfl, hb1⟩; have BZ := boxT BX_ hb1; have z0 : w1.cell? ⟨w.heap.size, 0, none⟩ = some (.int .i64 kd) := (blk_cell BZ.out.1 0).trans rfl)
 go_ret2
 exact ⟨⟨#[]⟩, false, rfl, by unfold refOk; simp only [HK1.out, HK2.out, HK3.out, if_false], (fun h => by cases h), BZ.out.2⟩
theorem refOp_calls (o : S107) (A2 A3 A5 A6 A7 : Option Addr) (c2 c3 c5 c6 c7 : Nat) (w : World) (hlen : (opB o).length ≤ 140737488355328) (g2 : k127.C w A2 o.f2.length o.f2) (g3 : k138.C w A3 o.f3.length o.f3) (g5 : (Kd.int .i64).C w A5 o.f4.f1.length o.f4.f1) (g6 : Kd.string.C w A6 o.f4.f2.length o.f4.f2) (g7 : (Kd.int .i64).C w A7 o.f4.f3.length o.f4.f3) (hok : okOp o) :
  Calls Try.prog 61 #[.agg #[.int .i64 o.f0, .int .i64 o.f1, .slice A2 o.f2.length c2, .slice A3 o.f3.length c3, .int .i64 o.f4.f0, .slice A5 o.f4.f1.length c5, .slice A6 o.f4.f2.length c6, .slice A7 o.f4.f3.length c7]] w fun e w' => ∃ s ok, e = .returned (.tuple #[.string s, .bool ok]) ∧ ok = refOk o ∧ (ok = true → s = strB (opB o)) ∧ Below w.heap.size w w' := by
 obtain ⟨kd, bp, l2, l3, ⟨nk, l5, l6, l7⟩⟩ := o
 dsimp only at *
 by_cases h1 : kd = 1
 ·subst h1
  cases hq : noB bp with
  | true =>
   cases hz : zeroN ⟨nk, l5, l6, l7⟩ with
   | true => exact op1_g bp nk l2 l3 l5 l6 l7 A2 A3 A5 A6 A7 c2 c3 c5 c6 c7 w hlen hq hz
   | false => exact op1_f bp nk l2 l3 l5 l6 l7 A2 A3 A5 A6 A7 c2 c3 c5 c6 c7 w hlen hq hz
  | false =>
   cases hz : zeroN ⟨nk, l5, l6, l7⟩ with
   | true =>
    by_cases hs : l2.length = 0
    ·exact op1_t bp nk l2 l3 l5 l6 l7 A2 A3 A5 A6 A7 c2 c3 c5 c6 c7 w hlen hq hz hs
    ·exact op1_s bp nk l2 l3 l5 l6 l7 A2 A3 A5 A6 A7 c2 c3 c5 c6 c7 w hlen hq hz hs
   | false => exact op1_z bp nk l2 l3 l5 l6 l7 A2 A3 A5 A6 A7 c2 c3 c5 c6 c7 w hlen hq hz
 by_cases h2 : kd = 2
 ·subst h2
  cases hq : noB bp with
  | true =>
   cases hz : zeroN ⟨nk, l5, l6, l7⟩ with
   | true => exact op2_g bp nk l2 l3 l5 l6 l7 A2 A3 A5 A6 A7 c2 c3 c5 c6 c7 w hlen g2 g3 g5 g6 g7 hok hq hz
   | false => exact op2_f bp nk l2 l3 l5 l6 l7 A2 A3 A5 A6 A7 c2 c3 c5 c6 c7 w hlen g2 g3 g5 g6 g7 hok hq hz
  | false =>
   cases hz : zeroN ⟨nk, l5, l6, l7⟩ with
   | true =>
    cases ha : (refSets l2).2 with
    | true => exact op2_b bp nk l2 l3 l5 l6 l7 A2 A3 A5 A6 A7 c2 c3 c5 c6 c7 w hlen g2 g3 g5 g6 g7 hok hq hz ha
    | false => exact op2_a bp nk l2 l3 l5 l6 l7 A2 A3 A5 A6 A7 c2 c3 c5 c6 c7 w hlen g2 g3 g5 g6 g7 hok hq hz ha
   | false => exact op2_z bp nk l2 l3 l5 l6 l7 A2 A3 A5 A6 A7 c2 c3 c5 c6 c7 w hlen g2 g3 g5 g6 g7 hok hq hz
 by_cases h3 : kd = 3
 ·subst h3
  cases ha : (refNode ⟨nk, l5, l6, l7⟩).2 with
  | false => exact op3_a bp nk l2 l3 l5 l6 l7 A2 A3 A5 A6 A7 c2 c3 c5 c6 c7 w hlen g2 g3 g5 g6 g7 hok ha
  | true =>
   by_cases hp : bp = 0
   ·by_cases hs : l2.length = 0
    ·exact op3_t bp nk l2 l3 l5 l6 l7 A2 A3 A5 A6 A7 c2 c3 c5 c6 c7 w hlen g2 g3 g5 g6 g7 hok ha hp hs
    ·exact op3_s bp nk l2 l3 l5 l6 l7 A2 A3 A5 A6 A7 c2 c3 c5 c6 c7 w hlen g2 g3 g5 g6 g7 hok ha hp hs
   ·exact op3_p bp nk l2 l3 l5 l6 l7 A2 A3 A5 A6 A7 c2 c3 c5 c6 c7 w hlen g2 g3 g5 g6 g7 hok ha hp
 exact opx kd bp nk l2 l3 l5 l6 l7 A2 A3 A5 A6 A7 c2 c3 c5 c6 c7 w h1 h2 h3
end Go.Proofs.Ytdjpelcdijpihaa.PrintF
