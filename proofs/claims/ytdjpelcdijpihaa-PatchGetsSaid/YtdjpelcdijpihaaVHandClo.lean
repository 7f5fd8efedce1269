/- A part of the proof of the claim: what it uses of the text HandClo. -/
import Derived.Test.YtdjpelcdijpihaaShort
import Derived.Test.YtdjpelcdijpihaaVHeldLast
namespace Go.Proofs.Ytdjpelcdijpihaa.PrintF
open Go.RowKit Go.Proofs.Ytdjpelcdijpihaa.Print Go.Proofs.YtdjpelcdijpihaaW.PrintWords Go.Proofs.YtdjpelcdijpihaaW.PrintLast Go.Lib
set_option linter.unusedVariables false
set_option linter.unusedSimpArgs false
def zero8 : Array Value := #[.int .i64 0, .int .i64 0, .slice none 0 0, .slice none 0 0, .int .i64 0, .slice none 0 0, .slice none 0 0, .slice none 0 0]
structure OI (w0 w : World) (gr go gq gc : Nat) (cb : ByteArray) (W : World) (s : PS) (o : S107) (v2 v3 v5 v6 v7 : Value) : Prop where
 cur : IsS122 w0 W gc cb (atOf cb s) s.2
 bel : Below w0.heap.size w0 W
 good : Good cb s
 keep : KeepBut w W gc none
 cap : W.heap[gq]? = some (.cells #[.pointer (some ⟨gc, 0, none⟩)] 86 (0, 0))
 lt : gc < w.heap.size
 ge : w.heap.size ≤ go
 le : w0.heap.size ≤ w.heap.size
 box : W.heap[go]? = some (.cells #[.int .i64 o.f0, .int .i64 o.f1, v2, v3, .int .i64 o.f4.f0, v5, v6, v7] 107 (0, 0))
 r2 : k127.R 127 W w.heap.size (fun _ => True) v2 o.f2
 r3 : k138.R 138 W w.heap.size (fun _ => True) v3 o.f3
 r5 : (Kd.int .i64).R 2 W w.heap.size (fun _ => True) v5 o.f4.f1
 r6 : Kd.string.R 9 W w.heap.size (fun _ => True) v6 o.f4.f2
 r7 : (Kd.int .i64).R 3 W w.heap.size (fun _ => True) v7 o.f4.f3
 res : W.heap[gr]? = some (.cells zero8 107 (0, 0))
 nr : gr ≠ go
 gg : w.heap.size ≤ gr
theorem R_low {α : Type} {d : Kd α} {e base gc : Nat} {W W1 : World} {v : Value} {xs : List α} (h : d.R e W base (fun _ => True) v xs) (hgc : gc < base) (hk : KeepBut W W1 gc none) : d.R e W1 base (fun _ => True) v xs :=
 Kd.R_mono (Kd.R_keep (Kd.R_bound h) hk (fun k hk => by have := hk.2.1; omega)) (fun _ _ => trivial)
theorem R_ov {α β : Type} {d : Kd α} {d' : Kd β} {e e' base : Nat} {W w1 : World} {u v : Value} {xs : List α} {ys : List β} (h : d.R e W base (fun _ => True) u xs) (hv : d'.R e' W base (fun _ => True) v ys) (ht : ∀ q, q ∈ e :: d.E → q ≠ e') (hg : W.grownBy w1 v.ownBlock) : d.R e w1 base (fun _ => True) u xs :=
 Kd.R_over' h (Kd.R_typed hv) ht hg
section
variable {w0 w W W1 : World} {gr go gq gc : Nat} {cb : ByteArray} {s s' : PS} {o : S107} {v2 v3 v5 v6 v7 : Value}
theorem OI.ne (h : OI w0 w gr go gq gc cb W s o v2 v3 v5 v6 v7) : go ≠ gq := fun e => by have := h.box; rw [e, h.cap] at this; simp at this
theorem OI.call (h : OI w0 w gr go gq gc cb W s o v2 v3 v5 v6 v7) (hg : Good cb s') (hi : IsS122 w0 W1 gc cb (atOf cb s') s'.2) (hb : Below w0.heap.size w0 W1) (hk : KeepBut W W1 gc none) : OI w0 w gr go gq gc cb W1 s' o v2 v3 v5 v6 v7 :=
 ⟨hi, hb, hg, KeepBut.trans h.keep hk (.inl rfl), hk.blk h.cap (IsS122.ne_blk h.cur h.cap (by decide)).symm (by simp), h.lt, h.ge, h.le, hk.blk h.box (IsS122.ne_blk h.cur h.box (by decide)).symm (by simp),
  R_low h.r2 h.lt hk, R_low h.r3 h.lt hk, R_low h.r5 h.lt hk, R_low h.r6 h.lt hk, R_low h.r7 h.lt hk, hk.blk h.res (IsS122.ne_blk h.cur h.res (by decide)).symm (by simp), h.nr, h.gg⟩
theorem OI.drew (h : OI w0 w gr go gq gc cb W s o v2 v3 v5 v6 v7) : OI w0 w gr go gq gc cb W.drew s o v2 v3 v5 v6 v7 :=
 ⟨h.cur.drew, below_drew1 h.bel, h.good, keep_drew h.keep, h.cap, h.lt, h.ge, h.le, h.box, Kd.R_drew h.r2, Kd.R_drew h.r3, Kd.R_drew h.r5, Kd.R_drew h.r6, Kd.R_drew h.r7, h.res, h.nr, h.gg⟩
theorem OI.c0 (h : OI w0 w gr go gq gc cb W s o v2 v3 v5 v6 v7) : W.cell? ⟨gq, 0, none⟩ = some (.pointer (some ⟨gc, 0, none⟩)) := (blk_cell h.cap 0).trans rfl
theorem OI.sz (h : OI w0 w gr go gq gc cb W s o v2 v3 v5 v6 v7) : w.heap.size ≤ W.heap.size := h.keep.1
end
section
variable {w0 w W w1 : World} {gr go gq gc : Nat} {cb : ByteArray} {s : PS} {o : S107} {v2 v3 v5 v6 v7 v1 : Value}
theorem OI.put2 {xs : List S127} (h : OI w0 w gr go gq gc cb W s o v2 v3 v5 v6 v7) (hr : k127.R 127 w1 w.heap.size (fun _ => True) v1 xs) (hb : Below w.heap.size W w1) (hg : W.grownBy w1 v2.ownBlock) :
  OI w0 w gr go gq gc cb (w1.setCell ⟨go, 2, none⟩ v1) s ⟨o.f0, o.f1, xs, o.f3, o.f4⟩ v1 v3 v5 v6 v7 := by
 have hne := Kd.R_ne h.r2 h.box (by decide)
 have HB := blk_grown h.box hg hne
 have ht : Below w0.heap.size W w1 := hb.mono h.le
 have hgc : go ≠ gc := Nat.ne_of_gt (Nat.lt_of_lt_of_le h.lt h.ge)
 have HC : w1.heap[gc]? = W.heap[gc]? := hb.block gc h.lt
 exact ⟨⟨by rw [Below.heap_setCell _ _ _ _ hgc.symm, HC]; exact h.cur.1, h.cur.2⟩, below_set (h.bel.trans ht) (Nat.le_trans h.le h.ge), h.good, keep_far ⟨Nat.le_trans h.sz hb.size, fun i hi hn hr => (hb.block i hi).trans (h.keep.2 i hi hn hr)⟩ h.ge _, blk_far (blk_grown h.cap hg (Kd.R_ne h.r2 h.cap (by decide))) h.ne.symm _, h.lt, h.ge, h.le, blk_put HB 2 _ rfl,
  Kd.R_set hr HB (by decide) 2 v1, Kd.R_set (R_ov h.r3 h.r2 (by decide) hg) HB (by decide) 2 v1, Kd.R_set (R_ov h.r5 h.r2 (by decide) hg) HB (by decide) 2 v1, Kd.R_set (R_ov h.r6 h.r2 (by decide) hg) HB (by decide) 2 v1, Kd.R_set (R_ov h.r7 h.r2 (by decide) hg) HB (by decide) 2 v1, blk_far (blk_grown h.res hg (Kd.R_ne h.r2 h.res (by decide))) h.nr _, h.nr, h.gg⟩
theorem OI.put3 {xs : List S138} (h : OI w0 w gr go gq gc cb W s o v2 v3 v5 v6 v7) (hr : k138.R 138 w1 w.heap.size (fun _ => True) v1 xs) (hb : Below w.heap.size W w1) (hg : W.grownBy w1 v3.ownBlock) :
  OI w0 w gr go gq gc cb (w1.setCell ⟨go, 3, none⟩ v1) s ⟨o.f0, o.f1, o.f2, xs, o.f4⟩ v2 v1 v5 v6 v7 := by
 have hne := Kd.R_ne h.r3 h.box (by decide)
 have HB := blk_grown h.box hg hne
 have ht : Below w0.heap.size W w1 := hb.mono h.le
 have hgc : go ≠ gc := Nat.ne_of_gt (Nat.lt_of_lt_of_le h.lt h.ge)
 have HC : w1.heap[gc]? = W.heap[gc]? := hb.block gc h.lt
 exact ⟨⟨by rw [Below.heap_setCell _ _ _ _ hgc.symm, HC]; exact h.cur.1, h.cur.2⟩, below_set (h.bel.trans ht) (Nat.le_trans h.le h.ge), h.good, keep_far ⟨Nat.le_trans h.sz hb.size, fun i hi hn hr => (hb.block i hi).trans (h.keep.2 i hi hn hr)⟩ h.ge _, blk_far (blk_grown h.cap hg (Kd.R_ne h.r3 h.cap (by decide))) h.ne.symm _, h.lt, h.ge, h.le, blk_put HB 3 _ rfl,
  Kd.R_set (R_ov h.r2 h.r3 (by decide) hg) HB (by decide) 3 v1, Kd.R_set hr HB (by decide) 3 v1, Kd.R_set (R_ov h.r5 h.r3 (by decide) hg) HB (by decide) 3 v1, Kd.R_set (R_ov h.r6 h.r3 (by decide) hg) HB (by decide) 3 v1, Kd.R_set (R_ov h.r7 h.r3 (by decide) hg) HB (by decide) 3 v1, blk_far (blk_grown h.res hg (Kd.R_ne h.r3 h.res (by decide))) h.nr _, h.nr, h.gg⟩
theorem OI.put5 {xs : List Int} (h : OI w0 w gr go gq gc cb W s o v2 v3 v5 v6 v7) (hr : (Kd.int .i64).R 2 w1 w.heap.size (fun _ => True) v1 xs) (hb : Below w.heap.size W w1) (hg : W.grownBy w1 v5.ownBlock) :
  OI w0 w gr go gq gc cb (w1.setCell ⟨go, 5, none⟩ v1) s ⟨o.f0, o.f1, o.f2, o.f3, ⟨o.f4.f0, xs, o.f4.f2, o.f4.f3⟩⟩ v2 v3 v1 v6 v7 := by
 have hne := Kd.R_ne h.r5 h.box (by decide)
 have HB := blk_grown h.box hg hne
 have ht : Below w0.heap.size W w1 := hb.mono h.le
 have hgc : go ≠ gc := Nat.ne_of_gt (Nat.lt_of_lt_of_le h.lt h.ge)
 have HC : w1.heap[gc]? = W.heap[gc]? := hb.block gc h.lt
 exact ⟨⟨by rw [Below.heap_setCell _ _ _ _ hgc.symm, HC]; exact h.cur.1, h.cur.2⟩, below_set (h.bel.trans ht) (Nat.le_trans h.le h.ge), h.good, keep_far ⟨Nat.le_trans h.sz hb.size, fun i hi hn hr => (hb.block i hi).trans (h.keep.2 i hi hn hr)⟩ h.ge _, blk_far (blk_grown h.cap hg (Kd.R_ne h.r5 h.cap (by decide))) h.ne.symm _, h.lt, h.ge, h.le, blk_put HB 5 _ rfl,
  Kd.R_set (R_ov h.r2 h.r5 (by decide) hg) HB (by decide) 5 v1, Kd.R_set (R_ov h.r3 h.r5 (by decide) hg) HB (by decide) 5 v1, Kd.R_set hr HB (by decide) 5 v1, Kd.R_set (R_ov h.r6 h.r5 (by decide) hg) HB (by decide) 5 v1, Kd.R_set (R_ov h.r7 h.r5 (by decide) hg) HB (by decide) 5 v1, blk_far (blk_grown h.res hg (Kd.R_ne h.r5 h.res (by decide))) h.nr _, h.nr, h.gg⟩
theorem OI.put6 {xs : List ByteArray} (h : OI w0 w gr go gq gc cb W s o v2 v3 v5 v6 v7) (hr : Kd.string.R 9 w1 w.heap.size (fun _ => True) v1 xs) (hb : Below w.heap.size W w1) (hg : W.grownBy w1 v6.ownBlock) :
  OI w0 w gr go gq gc cb (w1.setCell ⟨go, 6, none⟩ v1) s ⟨o.f0, o.f1, o.f2, o.f3, ⟨o.f4.f0, o.f4.f1, xs, o.f4.f3⟩⟩ v2 v3 v5 v1 v7 := by
 have hne := Kd.R_ne h.r6 h.box (by decide)
 have HB := blk_grown h.box hg hne
 have ht : Below w0.heap.size W w1 := hb.mono h.le
 have hgc : go ≠ gc := Nat.ne_of_gt (Nat.lt_of_lt_of_le h.lt h.ge)
 have HC : w1.heap[gc]? = W.heap[gc]? := hb.block gc h.lt
 exact ⟨⟨by rw [Below.heap_setCell _ _ _ _ hgc.symm, HC]; exact h.cur.1, h.cur.2⟩, below_set (h.bel.trans ht) (Nat.le_trans h.le h.ge), h.good, keep_far ⟨Nat.le_trans h.sz hb.size, fun i hi hn hr => (hb.block i hi).trans (h.keep.2 i hi hn hr)⟩ h.ge _, blk_far (blk_grown h.cap hg (Kd.R_ne h.r6 h.cap (by decide))) h.ne.symm _, h.lt, h.ge, h.le, blk_put HB 6 _ rfl,
  Kd.R_set (R_ov h.r2 h.r6 (by decide) hg) HB (by decide) 6 v1, Kd.R_set (R_ov h.r3 h.r6 (by decide) hg) HB (by decide) 6 v1, Kd.R_set (R_ov h.r5 h.r6 (by decide) hg) HB (by decide) 6 v1, Kd.R_set hr HB (by decide) 6 v1, Kd.R_set (R_ov h.r7 h.r6 (by decide) hg) HB (by decide) 6 v1, blk_far (blk_grown h.res hg (Kd.R_ne h.r6 h.res (by decide))) h.nr _, h.nr, h.gg⟩
theorem OI.put7 {xs : List Int} (h : OI w0 w gr go gq gc cb W s o v2 v3 v5 v6 v7) (hr : (Kd.int .i64).R 3 w1 w.heap.size (fun _ => True) v1 xs) (hb : Below w.heap.size W w1) (hg : W.grownBy w1 v7.ownBlock) :
  OI w0 w gr go gq gc cb (w1.setCell ⟨go, 7, none⟩ v1) s ⟨o.f0, o.f1, o.f2, o.f3, ⟨o.f4.f0, o.f4.f1, o.f4.f2, xs⟩⟩ v2 v3 v5 v6 v1 := by
 have hne := Kd.R_ne h.r7 h.box (by decide)
 have HB := blk_grown h.box hg hne
 have ht : Below w0.heap.size W w1 := hb.mono h.le
 have hgc : go ≠ gc := Nat.ne_of_gt (Nat.lt_of_lt_of_le h.lt h.ge)
 have HC : w1.heap[gc]? = W.heap[gc]? := hb.block gc h.lt
 exact ⟨⟨by rw [Below.heap_setCell _ _ _ _ hgc.symm, HC]; exact h.cur.1, h.cur.2⟩, below_set (h.bel.trans ht) (Nat.le_trans h.le h.ge), h.good, keep_far ⟨Nat.le_trans h.sz hb.size, fun i hi hn hr => (hb.block i hi).trans (h.keep.2 i hi hn hr)⟩ h.ge _, blk_far (blk_grown h.cap hg (Kd.R_ne h.r7 h.cap (by decide))) h.ne.symm _, h.lt, h.ge, h.le, blk_put HB 7 _ rfl,
  Kd.R_set (R_ov h.r2 h.r7 (by decide) hg) HB (by decide) 7 v1, Kd.R_set (R_ov h.r3 h.r7 (by decide) hg) HB (by decide) 7 v1, Kd.R_set (R_ov h.r5 h.r7 (by decide) hg) HB (by decide) 7 v1, Kd.R_set (R_ov h.r6 h.r7 (by decide) hg) HB (by decide) 7 v1, Kd.R_set hr HB (by decide) 7 v1, blk_far (blk_grown h.res hg (Kd.R_ne h.r7 h.res (by decide))) h.nr _, h.nr, h.gg⟩
theorem OI.set1 (n : Int) (h : OI w0 w gr go gq gc cb W s o v2 v3 v5 v6 v7) : OI w0 w gr go gq gc cb (W.setCell ⟨go, 1, none⟩ (.int .i64 n)) s ⟨o.f0, n, o.f2, o.f3, o.f4⟩ v2 v3 v5 v6 v7 :=
 ⟨IsS122.far h.cur (Nat.ne_of_lt (Nat.lt_of_lt_of_le h.lt h.ge)) _, below_set h.bel (Nat.le_trans h.le h.ge), h.good, keep_far h.keep h.ge _, blk_far h.cap h.ne.symm _, h.lt, h.ge, h.le, blk_put h.box 1 _ rfl, Kd.R_set h.r2 h.box (by decide) 1 _, Kd.R_set h.r3 h.box (by decide) 1 _, Kd.R_set h.r5 h.box (by decide) 1 _, Kd.R_set h.r6 h.box (by decide) 1 _, Kd.R_set h.r7 h.box (by decide) 1 _, blk_far h.res h.nr _, h.nr, h.gg⟩
theorem OI.set4 (n : Int) (h : OI w0 w gr go gq gc cb W s o v2 v3 v5 v6 v7) : OI w0 w gr go gq gc cb (W.setCell ⟨go, 4, none⟩ (.int .i64 n)) s ⟨o.f0, o.f1, o.f2, o.f3, ⟨n, o.f4.f1, o.f4.f2, o.f4.f3⟩⟩ v2 v3 v5 v6 v7 :=
 ⟨IsS122.far h.cur (Nat.ne_of_lt (Nat.lt_of_lt_of_le h.lt h.ge)) _, below_set h.bel (Nat.le_trans h.le h.ge), h.good, keep_far h.keep h.ge _, blk_far h.cap h.ne.symm _, h.lt, h.ge, h.le, blk_put h.box 4 _ rfl, Kd.R_set h.r2 h.box (by decide) 4 _, Kd.R_set h.r3 h.box (by decide) 4 _, Kd.R_set h.r5 h.box (by decide) 4 _, Kd.R_set h.r6 h.box (by decide) 4 _, Kd.R_set h.r7 h.box (by decide) 4 _, blk_far h.res h.nr _, h.nr, h.gg⟩
end
set_option maxHeartbeats 4000000 in
set_option maxRecDepth 100000 in
theorem clo83 {w0 w W : World} {gr go gq gc : Nat} {cb : ByteArray} {s : PS} {o : S107} {v2 v3 v5 v6 v7 : Value} (hcb : cb.size ≤ 140737488355328) (h : OI w0 w gr go gq gc cb W s o v2 v3 v5 v6 v7) (hl : o.f2.length < 16777216) :
  Calls Try.prog 83 #[.pointer (some ⟨go, 0, none⟩), .pointer (some ⟨gq, 0, none⟩)] W fun e W' => e = .returned (.tuple #[]) ∧ ∃ v1, OI w0 w gr go gq gc cb W' (setP s).2 ⟨o.f0, o.f1, o.f2 ++ [(setP s).1], o.f3, o.f4⟩ v1 v3 v5 v6 v7 := by
 have x0 : W.cell? ⟨go, 2, none⟩ = some v2 := (blk_cell h.box 2).trans rfl
 have x1 := h.c0
 have H := Lib.hid h
 have HL := Lib.hid hl
 clear h hl
 go_enter Try.func83, Try.ntmps83
 refine begu 7 (fun w' => w'.cell? ⟨go, 2, none⟩ = some v2 ∧ w'.cell? ⟨gq, 0, none⟩ = some (.pointer (some ⟨gc, 0, none⟩))) ⟨x0, x1⟩ (fun hHeld => ?_)
 have H2 := Lib.hid H.out.drew
 clear H x0 x1
 generalize W.drew = W1 at H2 hHeld ⊢
 refine tku 0 rfl ?_ (.inl ⟨by rfl, ?_⟩) ?_
 rotate_left 1
 ·intro w hSw
  obtain ⟨s0, s1⟩ := hSw
  go_simp
  (try with_reducible rfl)
 (try simp only [Act.put, zq1, zq2, zq3, zq4, zq5, zq6])
 refine tku 1 rfl ?_ (.inl ⟨by rfl, ?_⟩) ?_
 rotate_left 1
 ·intro w hSw
  obtain ⟨s0, s1⟩ := hSw
  go_simp
  (try with_reducible rfl)
 (try simp only [Act.put, zq1, zq2, zq3, zq4, zq5, zq6])
 refine tku 2 rfl ?_ (.inl ⟨by rfl, ?_⟩) ?_
 rotate_left 1
 ·intro w hSw
  obtain ⟨s0, s1⟩ := hSw
  go_simp
  (try with_reducible rfl)
 (try simp only [Act.put, zq1, zq2, zq3, zq4, zq5, zq6])
 refine rdu 3 rfl (fun K hK => ?_)
 go_simp
 go_at_call 84
 refine (patch_set.calls (rdsOf cb + 1) gc cb (atOf cb s) s.2 _ _ _ _ _ _ _ w0 _ H2.out.cur H2.out.bel (set_cur hcb s H2.out.good.1).1).mono ?_
 rintro e w2 ⟨rfl, i2, b2, k2⟩
 have H3 := Lib.hid (H2.out.call H2.out.good.set i2 b2 k2)
 clear i2 b2 k2 H2 hHeld
 have x0 : w2.cell? ⟨go, 2, none⟩ = some v2 := (blk_cell H3.out.box 2).trans rfl
 have x1 := H3.out.c0
 refine hK.out _ _ (fun _ => ⟨x0, x1⟩) (fun _ => ?_)
 clear hK K
 (try simp only [Act.put, zq1, zq2, zq3, zq4, zq5, zq6])
 refine rdu 4 rfl (fun K hK => ?_)
 go_simp
 refine hK.out _ _ (fun _ => ⟨pw_cell_below (below_alloc (Below.refl _ _) _) x0, pw_cell_below (below_alloc (Below.refl _ _) _) x1⟩) (fun _ => ?_)
 clear hK K
 (try simp only [Act.put, zq1, zq2, zq3, zq4, zq5, zq6])
 refine rdu 5 rfl (fun K hK => ?_)
 refine Kd.R_append_step k127 (w0 := w2) w.heap.size (by rfl) (.tmp 3) (.tmp 6) 99 127 (.agg #[(.bool false), (.int .i64 0), (.int .i64 0), (.string ⟨#[]⟩)]) 40 rfl Try.underlying99 info127 rfl (by decide) (by omega) v2 o.f2 (setP s).1 [.bool (setP s).1.f0, .int .i64 (setP s).1.f1, .int .i64 (setP s).1.f2, .string (setP s).1.f3] (fun _ => True) (fun _ => False) rfl rfl (k127_mkM _ _ _ (setP s).1) (fun _ hk => hk.elim) (fun _ _ => trivial) H3.out.r2 (Below.refl _ _) H3.out.sz (by have := HL.out; omega) ?_
 intro v1 w3 hr hb hg hat
 obtain ⟨A1, n1, c1, rfl⟩ : ∃ A n c, v1 = .slice A n c := by obtain ⟨A, c, e⟩ := Kd.R_slice hr; exact ⟨A, _, c, e⟩
 have hbx := blk_grown H3.out.box hg (Kd.R_ne H3.out.r2 H3.out.box (by decide))
 have hcp := blk_grown H3.out.cap hg (Kd.R_ne H3.out.r2 H3.out.cap (by decide))
 have H4 := Lib.hid (H3.out.put2 hr hb hg)
 have x0 : w3.cell? ⟨go, 2, none⟩ = some v2 := (blk_cell hbx 2).trans rfl
 have x1 : w3.cell? ⟨gq, 0, none⟩ = some (.pointer (some ⟨gc, 0, none⟩)) := (blk_cell hcp 0).trans rfl
 have x2 := blk_frozen hbx 2
 clear hr hb hg hat hbx hcp H3
 refine hK.out _ _ (fun _ => ⟨x0, x1⟩) (fun hHeld => ?_)
 have hHeld := hHeld (by decide)
 clear hK K
 (try simp only [Act.put, zq1, zq2, zq3, zq4, zq5, zq6])
 refine tku 6 rfl ?_ (.inl ⟨by rfl, ?_⟩) ?_
 rotate_left 1
 ·intro w hSw
  obtain ⟨s0, s1⟩ := hSw
  go_simp
  (try with_reducible rfl)
 (try simp only [Act.put, zq1, zq2, zq3, zq4, zq5, zq6])
 refine rdu 7 rfl (fun K hK => ?_)
 go_simp
 refine hK.out _ _ (fun h => absurd rfl h) (fun _ => ?_)
 clear hK K
 (try simp only [Act.put, zq1, zq2, zq3, zq4, zq5, zq6])
 refine endu ?_ rfl _
 go_wp2_with fail
 go_end0
 exact ⟨rfl, _, H4.out⟩
set_option maxHeartbeats 4000000 in
set_option maxRecDepth 100000 in
theorem clo85 {w0 w W : World} {gr go gq gc : Nat} {cb : ByteArray} {s : PS} {o : S107} {v2 v3 v5 v6 v7 : Value} (hcb : cb.size ≤ 140737488355328) (h : OI w0 w gr go gq gc cb W s o v2 v3 v5 v6 v7) (hl : o.f3.length < 16777216) :
  Calls Try.prog 85 #[.pointer (some ⟨go, 0, none⟩), .pointer (some ⟨gq, 0, none⟩)] W fun e W' => e = .returned (.tuple #[]) ∧ ∃ v1, OI w0 w gr go gq gc cb W' (editP s).2 ⟨o.f0, o.f1, o.f2, o.f3 ++ [(editP s).1], o.f4⟩ v2 v1 v5 v6 v7 := by
 have x0 : W.cell? ⟨go, 3, none⟩ = some v3 := (blk_cell h.box 3).trans rfl
 have x1 := h.c0
 have H := Lib.hid h
 have HL := Lib.hid hl
 clear h hl
 go_enter Try.func85, Try.ntmps85
 refine begu 7 (fun w' => w'.cell? ⟨go, 3, none⟩ = some v3 ∧ w'.cell? ⟨gq, 0, none⟩ = some (.pointer (some ⟨gc, 0, none⟩))) ⟨x0, x1⟩ (fun hHeld => ?_)
 have H2 := Lib.hid H.out.drew
 clear H x0 x1
 generalize W.drew = W1 at H2 hHeld ⊢
 refine tku 0 rfl ?_ (.inl ⟨by rfl, ?_⟩) ?_
 rotate_left 1
 ·intro w hSw
  obtain ⟨s0, s1⟩ := hSw
  go_simp
  (try with_reducible rfl)
 (try simp only [Act.put, zq1, zq2, zq3, zq4, zq5, zq6])
 refine tku 1 rfl ?_ (.inl ⟨by rfl, ?_⟩) ?_
 rotate_left 1
 ·intro w hSw
  obtain ⟨s0, s1⟩ := hSw
  go_simp
  (try with_reducible rfl)
 (try simp only [Act.put, zq1, zq2, zq3, zq4, zq5, zq6])
 refine tku 2 rfl ?_ (.inl ⟨by rfl, ?_⟩) ?_
 rotate_left 1
 ·intro w hSw
  obtain ⟨s0, s1⟩ := hSw
  go_simp
  (try with_reducible rfl)
 (try simp only [Act.put, zq1, zq2, zq3, zq4, zq5, zq6])
 refine rdu 3 rfl (fun K hK => ?_)
 go_simp
 go_at_call 86
 refine (patch_edit.calls (rdsOf cb + 1) gc cb (atOf cb s) s.2 _ _ _ _ _ w0 _ H2.out.cur H2.out.bel (edit_cur hcb s H2.out.good.1).1).mono ?_
 rintro e w2 ⟨rfl, i2, b2, k2⟩
 have H3 := Lib.hid (H2.out.call H2.out.good.edit i2 b2 k2)
 clear i2 b2 k2 H2 hHeld
 have x0 : w2.cell? ⟨go, 3, none⟩ = some v3 := (blk_cell H3.out.box 3).trans rfl
 have x1 := H3.out.c0
 refine hK.out _ _ (fun _ => ⟨x0, x1⟩) (fun _ => ?_)
 clear hK K
 (try simp only [Act.put, zq1, zq2, zq3, zq4, zq5, zq6])
 refine rdu 4 rfl (fun K hK => ?_)
 go_simp
 refine hK.out _ _ (fun _ => ⟨pw_cell_below (below_alloc (Below.refl _ _) _) x0, pw_cell_below (below_alloc (Below.refl _ _) _) x1⟩) (fun _ => ?_)
 clear hK K
 (try simp only [Act.put, zq1, zq2, zq3, zq4, zq5, zq6])
 refine rdu 5 rfl (fun K hK => ?_)
 refine Kd.R_append_step k138 (w0 := w2) w.heap.size (by rfl) (.tmp 3) (.tmp 6) 100 138 (.agg #[(.int .i64 0), (.int .i64 0)]) 16 rfl Try.underlying100 info138 rfl (by decide) (by omega) v3 o.f3 (editP s).1 [.int .i64 (editP s).1.f0, .int .i64 (editP s).1.f1] (fun _ => True) (fun _ => False) rfl rfl (k138_mkM _ _ _ (editP s).1) (fun _ hk => hk.elim) (fun _ _ => trivial) H3.out.r3 (Below.refl _ _) H3.out.sz (by have := HL.out; omega) ?_
 intro v1 w3 hr hb hg hat
 obtain ⟨A1, n1, c1, rfl⟩ : ∃ A n c, v1 = .slice A n c := by obtain ⟨A, c, e⟩ := Kd.R_slice hr; exact ⟨A, _, c, e⟩
 have hbx := blk_grown H3.out.box hg (Kd.R_ne H3.out.r3 H3.out.box (by decide))
 have hcp := blk_grown H3.out.cap hg (Kd.R_ne H3.out.r3 H3.out.cap (by decide))
 have H4 := Lib.hid (H3.out.put3 hr hb hg)
 have x0 : w3.cell? ⟨go, 3, none⟩ = some v3 := (blk_cell hbx 3).trans rfl
 have x1 : w3.cell? ⟨gq, 0, none⟩ = some (.pointer (some ⟨gc, 0, none⟩)) := (blk_cell hcp 0).trans rfl
 have x2 := blk_frozen hbx 3
 clear hr hb hg hat hbx hcp H3
 refine hK.out _ _ (fun _ => ⟨x0, x1⟩) (fun hHeld => ?_)
 have hHeld := hHeld (by decide)
 clear hK K
 (try simp only [Act.put, zq1, zq2, zq3, zq4, zq5, zq6])
 refine tku 6 rfl ?_ (.inl ⟨by rfl, ?_⟩) ?_
 rotate_left 1
 ·intro w hSw
  obtain ⟨s0, s1⟩ := hSw
  go_simp
  (try with_reducible rfl)
 (try simp only [Act.put, zq1, zq2, zq3, zq4, zq5, zq6])
 refine rdu 7 rfl (fun K hK => ?_)
 go_simp
 refine hK.out _ _ (fun h => absurd rfl h) (fun _ => ?_)
 clear hK K
 (try simp only [Act.put, zq1, zq2, zq3, zq4, zq5, zq6])
 refine endu ?_ rfl _
 go_wp2_with fail
 go_end0
 exact ⟨rfl, _, H4.out⟩
set_option maxHeartbeats 4000000 in
set_option maxRecDepth 100000 in
theorem clo87 {w0 w W : World} {gr go gq gc : Nat} {cb : ByteArray} {s : PS} {o : S107} {v2 v3 v5 v6 v7 : Value} (hcb : cb.size ≤ 140737488355328) (h : OI w0 w gr go gq gc cb W s o v2 v3 v5 v6 v7) (hl : o.f4.f1.length < 16777216) :
  Calls Try.prog 87 #[.pointer (some ⟨go, 0, none⟩), .pointer (some ⟨gq, 0, none⟩)] W fun e W' => e = .returned (.tuple #[]) ∧ ∃ v1, OI w0 w gr go gq gc cb W' (intP s).2 ⟨o.f0, o.f1, o.f2, o.f3, ⟨o.f4.f0, o.f4.f1 ++ [(intP s).1], o.f4.f2, o.f4.f3⟩⟩ v2 v3 v1 v6 v7 := by
 have x0 : W.cell? ⟨go, 5, none⟩ = some v5 := (blk_cell h.box 5).trans rfl
 have x1 := h.c0
 have H := Lib.hid h
 have HL := Lib.hid hl
 clear h hl
 go_enter Try.func87, Try.ntmps87
 refine begu 9 (fun w' => w'.cell? ⟨go, 5, none⟩ = some v5 ∧ w'.cell? ⟨gq, 0, none⟩ = some (.pointer (some ⟨gc, 0, none⟩))) ⟨x0, x1⟩ (fun hHeld => ?_)
 have H2 := Lib.hid H.out.drew
 clear H x0 x1
 generalize W.drew = W1 at H2 hHeld ⊢
 refine tku 0 rfl ?_ (.inl ⟨by rfl, ?_⟩) ?_
 rotate_left 1
 ·intro w hSw
  obtain ⟨s0, s1⟩ := hSw
  go_simp
  (try with_reducible rfl)
 (try simp only [Act.put, zq1, zq2, zq3, zq4, zq5, zq6])
 refine tku 1 rfl ?_ (.inl ⟨by rfl, ?_⟩) ?_
 rotate_left 1
 ·intro w hSw
  obtain ⟨s0, s1⟩ := hSw
  go_simp
  (try with_reducible rfl)
 (try simp only [Act.put, zq1, zq2, zq3, zq4, zq5, zq6])
 refine tku 2 rfl ?_ (.inl ⟨by rfl, ?_⟩) ?_
 rotate_left 1
 ·intro w hSw
  obtain ⟨s0, s1⟩ := hSw
  go_simp
  (try with_reducible rfl)
 (try simp only [Act.put, zq1, zq2, zq3, zq4, zq5, zq6])
 refine tku 3 rfl ?_ (.inl ⟨by rfl, ?_⟩) ?_
 rotate_left 1
 ·intro w hSw
  obtain ⟨s0, s1⟩ := hSw
  go_simp
  (try with_reducible rfl)
 (try simp only [Act.put, zq1, zq2, zq3, zq4, zq5, zq6])
 refine rdu 4 rfl (fun K hK => ?_)
 go_simp
 go_at_call 88
 refine (cursor_Cursor_Int.calls (rdsOf cb) gc cb (atOf cb s) s.2 _ _ _ _ w0 _ H2.out.cur H2.out.bel (int_cur hcb s H2.out.good.1).1).mono ?_
 rintro e w2 ⟨rfl, i2, b2, k2⟩
 have H3 := Lib.hid (H2.out.call H2.out.good.int i2 b2 k2)
 clear i2 b2 k2 H2 hHeld
 have x0 : w2.cell? ⟨go, 5, none⟩ = some v5 := (blk_cell H3.out.box 5).trans rfl
 have x1 := H3.out.c0
 refine hK.out _ _ (fun _ => ⟨x0, x1⟩) (fun _ => ?_)
 clear hK K
 (try simp only [Act.put, zq1, zq2, zq3, zq4, zq5, zq6])
 refine rdu 5 rfl (fun K hK => ?_)
 go_simp
 refine hK.out _ _ (fun _ => ⟨pw_cell_below (below_alloc (Below.refl _ _) _) x0, pw_cell_below (below_alloc (Below.refl _ _) _) x1⟩) (fun _ => ?_)
 clear hK K
 (try simp only [Act.put, zq1, zq2, zq3, zq4, zq5, zq6])
 refine rdu 6 rfl (fun K hK => ?_)
 refine Kd.R_append_step (Kd.int .i64) (w0 := w2) w.heap.size (by rfl) (.tmp 4) (.tmp 7) 101 2 (.int .i64 0) 8 rfl Try.underlying101 info2 rfl (by decide) (by omega) v5 o.f4.f1 (intP s).1 [.int .i64 (intP s).1] (fun _ => True) (fun _ => False) rfl rfl (rfl) (fun _ hk => hk.elim) (fun _ _ => trivial) H3.out.r5 (Below.refl _ _) H3.out.sz (by have := HL.out; omega) ?_
 intro v1 w3 hr hb hg hat
 obtain ⟨A1, n1, c1, rfl⟩ : ∃ A n c, v1 = .slice A n c := by obtain ⟨A, c, e⟩ := Kd.R_slice hr; exact ⟨A, _, c, e⟩
 have hbx := blk_grown H3.out.box hg (Kd.R_ne H3.out.r5 H3.out.box (by decide))
 have hcp := blk_grown H3.out.cap hg (Kd.R_ne H3.out.r5 H3.out.cap (by decide))
 have H4 := Lib.hid (H3.out.put5 hr hb hg)
 have x0 : w3.cell? ⟨go, 5, none⟩ = some v5 := (blk_cell hbx 5).trans rfl
 have x1 : w3.cell? ⟨gq, 0, none⟩ = some (.pointer (some ⟨gc, 0, none⟩)) := (blk_cell hcp 0).trans rfl
 have x2 := blk_frozen hbx 5
 clear hr hb hg hat hbx hcp H3
 refine hK.out _ _ (fun _ => ⟨x0, x1⟩) (fun hHeld => ?_)
 have hHeld := hHeld (by decide)
 clear hK K
 (try simp only [Act.put, zq1, zq2, zq3, zq4, zq5, zq6])
 refine rdu 7 rfl (fun K hK => ?_)
 go_simp
 refine hK.out _ _ (fun _ => hHeld) (fun _ => ?_)
 clear hK K
 (try simp only [Act.put, zq1, zq2, zq3, zq4, zq5, zq6])
 refine tku 8 rfl ?_ (.inl ⟨by rfl, ?_⟩) ?_
 rotate_left 1
 ·intro w hSw
  obtain ⟨s0, s1⟩ := hSw
  go_simp
  (try with_reducible rfl)
 (try simp only [Act.put, zq1, zq2, zq3, zq4, zq5, zq6])
 refine rdu 9 rfl (fun K hK => ?_)
 go_simp
 refine hK.out _ _ (fun h => absurd rfl h) (fun _ => ?_)
 clear hK K
 (try simp only [Act.put, zq1, zq2, zq3, zq4, zq5, zq6])
 refine endu ?_ rfl _
 go_wp2_with fail
 go_end0
 exact ⟨rfl, _, H4.out⟩
set_option maxHeartbeats 4000000 in
set_option maxRecDepth 100000 in
theorem clo89 {w0 w W : World} {gr go gq gc : Nat} {cb : ByteArray} {s : PS} {o : S107} {v2 v3 v5 v6 v7 : Value} (hcb : cb.size ≤ 140737488355328) (h : OI w0 w gr go gq gc cb W s o v2 v3 v5 v6 v7) (hl : o.f4.f2.length < 16777216) :
  Calls Try.prog 89 #[.pointer (some ⟨go, 0, none⟩), .pointer (some ⟨gq, 0, none⟩)] W fun e W' => e = .returned (.tuple #[]) ∧ ∃ v1, OI w0 w gr go gq gc cb W' (textP s).2 ⟨o.f0, o.f1, o.f2, o.f3, ⟨o.f4.f0, o.f4.f1, o.f4.f2 ++ [(textP s).1], o.f4.f3⟩⟩ v2 v3 v5 v1 v7 := by
 have x0 : W.cell? ⟨go, 6, none⟩ = some v6 := (blk_cell h.box 6).trans rfl
 have x1 := h.c0
 have H := Lib.hid h
 have HL := Lib.hid hl
 clear h hl
 go_enter Try.func89, Try.ntmps89
 refine begu 9 (fun w' => w'.cell? ⟨go, 6, none⟩ = some v6 ∧ w'.cell? ⟨gq, 0, none⟩ = some (.pointer (some ⟨gc, 0, none⟩))) ⟨x0, x1⟩ (fun hHeld => ?_)
 have H2 := Lib.hid H.out.drew
 clear H x0 x1
 generalize W.drew = W1 at H2 hHeld ⊢
 refine tku 0 rfl ?_ (.inl ⟨by rfl, ?_⟩) ?_
 rotate_left 1
 ·intro w hSw
  obtain ⟨s0, s1⟩ := hSw
  go_simp
  (try with_reducible rfl)
 (try simp only [Act.put, zq1, zq2, zq3, zq4, zq5, zq6])
 refine tku 1 rfl ?_ (.inl ⟨by rfl, ?_⟩) ?_
 rotate_left 1
 ·intro w hSw
  obtain ⟨s0, s1⟩ := hSw
  go_simp
  (try with_reducible rfl)
 (try simp only [Act.put, zq1, zq2, zq3, zq4, zq5, zq6])
 refine tku 2 rfl ?_ (.inl ⟨by rfl, ?_⟩) ?_
 rotate_left 1
 ·intro w hSw
  obtain ⟨s0, s1⟩ := hSw
  go_simp
  (try with_reducible rfl)
 (try simp only [Act.put, zq1, zq2, zq3, zq4, zq5, zq6])
 refine tku 3 rfl ?_ (.inl ⟨by rfl, ?_⟩) ?_
 rotate_left 1
 ·intro w hSw
  obtain ⟨s0, s1⟩ := hSw
  go_simp
  (try with_reducible rfl)
 (try simp only [Act.put, zq1, zq2, zq3, zq4, zq5, zq6])
 refine rdu 4 rfl (fun K hK => ?_)
 go_simp
 go_at_call 90
 refine (cursor_Cursor_Text.calls (rdsOf cb) gc cb (atOf cb s) s.2 16777216 _ _ _ _ w0 _ H2.out.cur H2.out.bel (text_cur hcb s H2.out.good.1).1).mono ?_
 rintro e w2 ⟨rfl, i2, b2, k2⟩
 have H3 := Lib.hid (H2.out.call H2.out.good.text i2 b2 k2)
 clear i2 b2 k2 H2 hHeld
 have x0 : w2.cell? ⟨go, 6, none⟩ = some v6 := (blk_cell H3.out.box 6).trans rfl
 have x1 := H3.out.c0
 refine hK.out _ _ (fun _ => ⟨x0, x1⟩) (fun _ => ?_)
 clear hK K
 (try simp only [Act.put, zq1, zq2, zq3, zq4, zq5, zq6])
 refine rdu 5 rfl (fun K hK => ?_)
 go_simp
 refine hK.out _ _ (fun _ => ⟨pw_cell_below (below_alloc (Below.refl _ _) _) x0, pw_cell_below (below_alloc (Below.refl _ _) _) x1⟩) (fun _ => ?_)
 clear hK K
 (try simp only [Act.put, zq1, zq2, zq3, zq4, zq5, zq6])
 refine rdu 6 rfl (fun K hK => ?_)
 refine Kd.R_append_step Kd.string (w0 := w2) w.heap.size (by rfl) (.tmp 4) (.tmp 7) 102 9 (.string ⟨#[]⟩) 16 rfl Try.underlying102 info9 rfl (by decide) (by omega) v6 o.f4.f2 (textP s).1 [.string (textP s).1] (fun _ => True) (fun _ => False) rfl rfl (rfl) (fun _ hk => hk.elim) (fun _ _ => trivial) H3.out.r6 (Below.refl _ _) H3.out.sz (by have := HL.out; omega) ?_
 intro v1 w3 hr hb hg hat
 obtain ⟨A1, n1, c1, rfl⟩ : ∃ A n c, v1 = .slice A n c := by obtain ⟨A, c, e⟩ := Kd.R_slice hr; exact ⟨A, _, c, e⟩
 have hbx := blk_grown H3.out.box hg (Kd.R_ne H3.out.r6 H3.out.box (by decide))
 have hcp := blk_grown H3.out.cap hg (Kd.R_ne H3.out.r6 H3.out.cap (by decide))
 have H4 := Lib.hid (H3.out.put6 hr hb hg)
 have x0 : w3.cell? ⟨go, 6, none⟩ = some v6 := (blk_cell hbx 6).trans rfl
 have x1 : w3.cell? ⟨gq, 0, none⟩ = some (.pointer (some ⟨gc, 0, none⟩)) := (blk_cell hcp 0).trans rfl
 have x2 := blk_frozen hbx 6
 clear hr hb hg hat hbx hcp H3
 refine hK.out _ _ (fun _ => ⟨x0, x1⟩) (fun hHeld => ?_)
 have hHeld := hHeld (by decide)
 clear hK K
 (try simp only [Act.put, zq1, zq2, zq3, zq4, zq5, zq6])
 refine rdu 7 rfl (fun K hK => ?_)
 go_simp
 refine hK.out _ _ (fun _ => hHeld) (fun _ => ?_)
 clear hK K
 (try simp only [Act.put, zq1, zq2, zq3, zq4, zq5, zq6])
 refine tku 8 rfl ?_ (.inl ⟨by rfl, ?_⟩) ?_
 rotate_left 1
 ·intro w hSw
  obtain ⟨s0, s1⟩ := hSw
  go_simp
  (try with_reducible rfl)
 (try simp only [Act.put, zq1, zq2, zq3, zq4, zq5, zq6])
 refine rdu 9 rfl (fun K hK => ?_)
 go_simp
 refine hK.out _ _ (fun h => absurd rfl h) (fun _ => ?_)
 clear hK K
 (try simp only [Act.put, zq1, zq2, zq3, zq4, zq5, zq6])
 refine endu ?_ rfl _
 go_wp2_with fail
 go_end0
 exact ⟨rfl, _, H4.out⟩
set_option maxHeartbeats 4000000 in
set_option maxRecDepth 100000 in
theorem clo91 {w0 w W : World} {gr go gq gc : Nat} {cb : ByteArray} {s : PS} {o : S107} {v2 v3 v5 v6 v7 : Value} (hcb : cb.size ≤ 140737488355328) (h : OI w0 w gr go gq gc cb W s o v2 v3 v5 v6 v7) (hl : o.f4.f3.length < 16777216) :
  Calls Try.prog 91 #[.pointer (some ⟨go, 0, none⟩), .pointer (some ⟨gq, 0, none⟩)] W fun e W' => e = .returned (.tuple #[]) ∧ ∃ v1, OI w0 w gr go gq gc cb W' (uintP s).2 ⟨o.f0, o.f1, o.f2, o.f3, ⟨o.f4.f0, o.f4.f1, o.f4.f2, o.f4.f3 ++ [(uintP s).1]⟩⟩ v2 v3 v5 v6 v1 := by
 have x0 : W.cell? ⟨go, 7, none⟩ = some v7 := (blk_cell h.box 7).trans rfl
 have x1 := h.c0
 have H := Lib.hid h
 have HL := Lib.hid hl
 clear h hl
 go_enter Try.func91, Try.ntmps91
 refine begu 9 (fun w' => w'.cell? ⟨go, 7, none⟩ = some v7 ∧ w'.cell? ⟨gq, 0, none⟩ = some (.pointer (some ⟨gc, 0, none⟩))) ⟨x0, x1⟩ (fun hHeld => ?_)
 have H2 := Lib.hid H.out.drew
 clear H x0 x1
 generalize W.drew = W1 at H2 hHeld ⊢
 refine tku 0 rfl ?_ (.inl ⟨by rfl, ?_⟩) ?_
 rotate_left 1
 ·intro w hSw
  obtain ⟨s0, s1⟩ := hSw
  go_simp
  (try with_reducible rfl)
 (try simp only [Act.put, zq1, zq2, zq3, zq4, zq5, zq6])
 refine tku 1 rfl ?_ (.inl ⟨by rfl, ?_⟩) ?_
 rotate_left 1
 ·intro w hSw
  obtain ⟨s0, s1⟩ := hSw
  go_simp
  (try with_reducible rfl)
 (try simp only [Act.put, zq1, zq2, zq3, zq4, zq5, zq6])
 refine tku 2 rfl ?_ (.inl ⟨by rfl, ?_⟩) ?_
 rotate_left 1
 ·intro w hSw
  obtain ⟨s0, s1⟩ := hSw
  go_simp
  (try with_reducible rfl)
 (try simp only [Act.put, zq1, zq2, zq3, zq4, zq5, zq6])
 refine tku 3 rfl ?_ (.inl ⟨by rfl, ?_⟩) ?_
 rotate_left 1
 ·intro w hSw
  obtain ⟨s0, s1⟩ := hSw
  go_simp
  (try with_reducible rfl)
 (try simp only [Act.put, zq1, zq2, zq3, zq4, zq5, zq6])
 refine rdu 4 rfl (fun K hK => ?_)
 go_simp
 go_at_call 73
 refine (cursor_Cursor_Uint.calls (rdsOf cb) gc cb (atOf cb s) s.2 16777216 _ _ _ _ w0 _ H2.out.cur H2.out.bel (uint_cur hcb s H2.out.good.1).1).mono ?_
 rintro e w2 ⟨rfl, i2, b2, k2⟩
 have H3 := Lib.hid (H2.out.call H2.out.good.uint i2 b2 k2)
 clear i2 b2 k2 H2 hHeld
 have x0 : w2.cell? ⟨go, 7, none⟩ = some v7 := (blk_cell H3.out.box 7).trans rfl
 have x1 := H3.out.c0
 refine hK.out _ _ (fun _ => ⟨x0, x1⟩) (fun _ => ?_)
 clear hK K
 (try simp only [Act.put, zq1, zq2, zq3, zq4, zq5, zq6])
 refine rdu 5 rfl (fun K hK => ?_)
 go_simp
 refine hK.out _ _ (fun _ => ⟨pw_cell_below (below_alloc (Below.refl _ _) _) x0, pw_cell_below (below_alloc (Below.refl _ _) _) x1⟩) (fun _ => ?_)
 clear hK K
 (try simp only [Act.put, zq1, zq2, zq3, zq4, zq5, zq6])
 refine rdu 6 rfl (fun K hK => ?_)
 refine Kd.R_append_step (Kd.int .i64) (w0 := w2) w.heap.size (by rfl) (.tmp 4) (.tmp 7) 103 3 (.int .i64 0) 8 rfl Try.underlying103 info3 rfl (by decide) (by omega) v7 o.f4.f3 (uintP s).1 [.int .i64 (uintP s).1] (fun _ => True) (fun _ => False) rfl rfl (rfl) (fun _ hk => hk.elim) (fun _ _ => trivial) H3.out.r7 (Below.refl _ _) H3.out.sz (by have := HL.out; omega) ?_
 intro v1 w3 hr hb hg hat
 obtain ⟨A1, n1, c1, rfl⟩ : ∃ A n c, v1 = .slice A n c := by obtain ⟨A, c, e⟩ := Kd.R_slice hr; exact ⟨A, _, c, e⟩
 have hbx := blk_grown H3.out.box hg (Kd.R_ne H3.out.r7 H3.out.box (by decide))
 have hcp := blk_grown H3.out.cap hg (Kd.R_ne H3.out.r7 H3.out.cap (by decide))
 have H4 := Lib.hid (H3.out.put7 hr hb hg)
 have x0 : w3.cell? ⟨go, 7, none⟩ = some v7 := (blk_cell hbx 7).trans rfl
 have x1 : w3.cell? ⟨gq, 0, none⟩ = some (.pointer (some ⟨gc, 0, none⟩)) := (blk_cell hcp 0).trans rfl
 have x2 := blk_frozen hbx 7
 clear hr hb hg hat hbx hcp H3
 refine hK.out _ _ (fun _ => ⟨x0, x1⟩) (fun hHeld => ?_)
 have hHeld := hHeld (by decide)
 clear hK K
 (try simp only [Act.put, zq1, zq2, zq3, zq4, zq5, zq6])
 refine rdu 7 rfl (fun K hK => ?_)
 go_simp
 refine hK.out _ _ (fun _ => hHeld) (fun _ => ?_)
 clear hK K
 (try simp only [Act.put, zq1, zq2, zq3, zq4, zq5, zq6])
 refine tku 8 rfl ?_ (.inl ⟨by rfl, ?_⟩) ?_
 rotate_left 1
 ·intro w hSw
  obtain ⟨s0, s1⟩ := hSw
  go_simp
  (try with_reducible rfl)
 (try simp only [Act.put, zq1, zq2, zq3, zq4, zq5, zq6])
 refine rdu 9 rfl (fun K hK => ?_)
 go_simp
 refine hK.out _ _ (fun h => absurd rfl h) (fun _ => ?_)
 clear hK K
 (try simp only [Act.put, zq1, zq2, zq3, zq4, zq5, zq6])
 refine endu ?_ rfl _
 go_wp2_with fail
 go_end0
 exact ⟨rfl, _, H4.out⟩
theorem cnt83 {w0 w W : World} {gr go gq gc : Nat} {cb : ByteArray} {s : PS} {o : S107} {v2 v3 v5 v6 v7 : Value} (hcb : cb.size ≤ 140737488355328) (h : OI w0 w gr go gq gc cb W s ⟨o.f0, o.f1, [], o.f3, o.f4⟩ v2 v3 v5 v6 v7) :
  Calls Try.prog 62 #[.pointer (some ⟨gc, 0, none⟩), .func (.func 83) #[] #[.pointer (some ⟨go, 0, none⟩), .pointer (some ⟨gq, 0, none⟩)]] W fun e W' => e = .returned (.tuple #[]) ∧ ∃ v1, OI w0 w gr go gq gc cb W' (countP setP s).2 ⟨o.f0, o.f1, (countP setP s).1, o.f3, o.f4⟩ v1 v3 v5 v6 v7 :=
 count_calls (F := 83) (Inv := fun xs s W => ∃ v1, OI w0 w gr go gq gc cb W s ⟨o.f0, o.f1, xs, o.f3, o.f4⟩ v1 v3 v5 v6 v7) (step := setP) Try.func83 (by kernel_rfl) rfl hcb (fun xs s W ⟨_, h⟩ => ⟨h.cur, h.bel, h.good⟩) (fun xs s W s' W' ⟨_, h⟩ hg hi hb hk => ⟨_, h.call hg hi hb hk⟩) (fun xs s W ⟨_, h⟩ hn hl => clo83 hcb h hl) s W ⟨_, h⟩
theorem cnt85 {w0 w W : World} {gr go gq gc : Nat} {cb : ByteArray} {s : PS} {o : S107} {v2 v3 v5 v6 v7 : Value} (hcb : cb.size ≤ 140737488355328) (h : OI w0 w gr go gq gc cb W s ⟨o.f0, o.f1, o.f2, [], o.f4⟩ v2 v3 v5 v6 v7) :
  Calls Try.prog 62 #[.pointer (some ⟨gc, 0, none⟩), .func (.func 85) #[] #[.pointer (some ⟨go, 0, none⟩), .pointer (some ⟨gq, 0, none⟩)]] W fun e W' => e = .returned (.tuple #[]) ∧ ∃ v1, OI w0 w gr go gq gc cb W' (countP editP s).2 ⟨o.f0, o.f1, o.f2, (countP editP s).1, o.f4⟩ v2 v1 v5 v6 v7 :=
 count_calls (F := 85) (Inv := fun xs s W => ∃ v1, OI w0 w gr go gq gc cb W s ⟨o.f0, o.f1, o.f2, xs, o.f4⟩ v2 v1 v5 v6 v7) (step := editP) Try.func85 (by kernel_rfl) rfl hcb (fun xs s W ⟨_, h⟩ => ⟨h.cur, h.bel, h.good⟩) (fun xs s W s' W' ⟨_, h⟩ hg hi hb hk => ⟨_, h.call hg hi hb hk⟩) (fun xs s W ⟨_, h⟩ hn hl => clo85 hcb h hl) s W ⟨_, h⟩
theorem cnt87 {w0 w W : World} {gr go gq gc : Nat} {cb : ByteArray} {s : PS} {o : S107} {v2 v3 v5 v6 v7 : Value} (hcb : cb.size ≤ 140737488355328) (h : OI w0 w gr go gq gc cb W s ⟨o.f0, o.f1, o.f2, o.f3, ⟨o.f4.f0, [], o.f4.f2, o.f4.f3⟩⟩ v2 v3 v5 v6 v7) :
  Calls Try.prog 62 #[.pointer (some ⟨gc, 0, none⟩), .func (.func 87) #[] #[.pointer (some ⟨go, 0, none⟩), .pointer (some ⟨gq, 0, none⟩)]] W fun e W' => e = .returned (.tuple #[]) ∧ ∃ v1, OI w0 w gr go gq gc cb W' (countP intP s).2 ⟨o.f0, o.f1, o.f2, o.f3, ⟨o.f4.f0, (countP intP s).1, o.f4.f2, o.f4.f3⟩⟩ v2 v3 v1 v6 v7 :=
 count_calls (F := 87) (Inv := fun xs s W => ∃ v1, OI w0 w gr go gq gc cb W s ⟨o.f0, o.f1, o.f2, o.f3, ⟨o.f4.f0, xs, o.f4.f2, o.f4.f3⟩⟩ v2 v3 v1 v6 v7) (step := intP) Try.func87 (by kernel_rfl) rfl hcb (fun xs s W ⟨_, h⟩ => ⟨h.cur, h.bel, h.good⟩) (fun xs s W s' W' ⟨_, h⟩ hg hi hb hk => ⟨_, h.call hg hi hb hk⟩) (fun xs s W ⟨_, h⟩ hn hl => clo87 hcb h hl) s W ⟨_, h⟩
theorem cnt89 {w0 w W : World} {gr go gq gc : Nat} {cb : ByteArray} {s : PS} {o : S107} {v2 v3 v5 v6 v7 : Value} (hcb : cb.size ≤ 140737488355328) (h : OI w0 w gr go gq gc cb W s ⟨o.f0, o.f1, o.f2, o.f3, ⟨o.f4.f0, o.f4.f1, [], o.f4.f3⟩⟩ v2 v3 v5 v6 v7) :
  Calls Try.prog 62 #[.pointer (some ⟨gc, 0, none⟩), .func (.func 89) #[] #[.pointer (some ⟨go, 0, none⟩), .pointer (some ⟨gq, 0, none⟩)]] W fun e W' => e = .returned (.tuple #[]) ∧ ∃ v1, OI w0 w gr go gq gc cb W' (countP textP s).2 ⟨o.f0, o.f1, o.f2, o.f3, ⟨o.f4.f0, o.f4.f1, (countP textP s).1, o.f4.f3⟩⟩ v2 v3 v5 v1 v7 :=
 count_calls (F := 89) (Inv := fun xs s W => ∃ v1, OI w0 w gr go gq gc cb W s ⟨o.f0, o.f1, o.f2, o.f3, ⟨o.f4.f0, o.f4.f1, xs, o.f4.f3⟩⟩ v2 v3 v5 v1 v7) (step := textP) Try.func89 (by kernel_rfl) rfl hcb (fun xs s W ⟨_, h⟩ => ⟨h.cur, h.bel, h.good⟩) (fun xs s W s' W' ⟨_, h⟩ hg hi hb hk => ⟨_, h.call hg hi hb hk⟩) (fun xs s W ⟨_, h⟩ hn hl => clo89 hcb h hl) s W ⟨_, h⟩
theorem cnt91 {w0 w W : World} {gr go gq gc : Nat} {cb : ByteArray} {s : PS} {o : S107} {v2 v3 v5 v6 v7 : Value} (hcb : cb.size ≤ 140737488355328) (h : OI w0 w gr go gq gc cb W s ⟨o.f0, o.f1, o.f2, o.f3, ⟨o.f4.f0, o.f4.f1, o.f4.f2, []⟩⟩ v2 v3 v5 v6 v7) :
  Calls Try.prog 62 #[.pointer (some ⟨gc, 0, none⟩), .func (.func 91) #[] #[.pointer (some ⟨go, 0, none⟩), .pointer (some ⟨gq, 0, none⟩)]] W fun e W' => e = .returned (.tuple #[]) ∧ ∃ v1, OI w0 w gr go gq gc cb W' (countP uintP s).2 ⟨o.f0, o.f1, o.f2, o.f3, ⟨o.f4.f0, o.f4.f1, o.f4.f2, (countP uintP s).1⟩⟩ v2 v3 v5 v6 v1 :=
 count_calls (F := 91) (Inv := fun xs s W => ∃ v1, OI w0 w gr go gq gc cb W s ⟨o.f0, o.f1, o.f2, o.f3, ⟨o.f4.f0, o.f4.f1, o.f4.f2, xs⟩⟩ v2 v3 v5 v6 v1) (step := uintP) Try.func91 (by kernel_rfl) rfl hcb (fun xs s W ⟨_, h⟩ => ⟨h.cur, h.bel, h.good⟩) (fun xs s W s' W' ⟨_, h⟩ hg hi hb hk => ⟨_, h.call hg hi hb hk⟩) (fun xs s W ⟨_, h⟩ hn hl => clo91 hcb h hl) s W ⟨_, h⟩
end Go.Proofs.Ytdjpelcdijpihaa.PrintF
