/- A part of the proof of the claim: what it uses of the text HandPatchOps. -/
import Derived.Test.YtdjpelcdijpihaaShort
import Derived.Test.YtdjpelcdijpihaaVHandGetOp
import Derived.Test.YtdjpelcdijpihaaVHandPatchGS
namespace Go.Proofs.Ytdjpelcdijpihaa.PrintF
open Go.RowKit Go.Proofs.Ytdjpelcdijpihaa.Print Go.Proofs.YtdjpelcdijpihaaW.PrintWords Go.Proofs.YtdjpelcdijpihaaW.PrintLast Go.Lib
set_option linter.unusedVariables false
set_option linter.unusedSimpArgs false
theorem i107 : (Try.prog.info? 107).map (fun i => (i.zero, i.size, i.bytes)) = some (some (.agg zero8), 8, 144) := by kernel_rfl
theorem Good.op {cb : ByteArray} {s : PS} (h : Good cb s) : Good cb (opP s).2 := by
 unfold opP
 dsimp only
 split
 ·exact h.uint.uint
 ·split
  ·exact Good.count (fun _ h => h.edit) (Good.count (fun _ h => h.set) h.uint.uint)
  ·split
   ·exact Good.count (fun _ h => h.uint) (Good.count (fun _ h => h.text) (Good.count (fun _ h => h.int) h.uint.uint))
   ·exact h.uint.fail (by decide)
structure PI (w : World) (g2 g11 g12 gc : Nat) (sum len way : Int) (file cb : ByteArray) (W : World) (s : PS) (ops : List S107) (v : Value) : Prop where
 gs : GS w W g2 g11 g12 gc sum len way v file cb (atOf cb s) s.2
 good : Good cb s
 row : Kd.S k107 107 W w.heap.size (fun _ => True) v ops
section
variable {w W W1 : World} {g2 g11 g12 gc : Nat} {sum len way : Int} {file cb : ByteArray} {s s' : PS} {ops xs : List S107} {v v1 : Value}
theorem PI.call (h : PI w g2 g11 g12 gc sum len way file cb W s ops v) (hg : Good cb s') (hi : IsS122 w W1 gc cb (atOf cb s') s'.2) (hb : Below w.heap.size w W1) (hk : KeepBut W W1 gc none) : PI w g2 g11 g12 gc sum len way file cb W1 s' ops v :=
 ⟨GS.keep h.gs hk hi hb, hg, Kd.S_mono (Kd.S_keep (Kd.S_types h.row (GS.is h.gs).1 (by decide)) hk (fun _ h => h.2)) (fun _ _ => trivial)⟩
theorem PI.drew (h : PI w g2 g11 g12 gc sum len way file cb W s ops v) : PI w g2 g11 g12 gc sum len way file cb W.drew s ops v := ⟨GS.drew h.gs, h.good, Kd.S_drew h.row⟩
theorem PI.put (h : PI w g2 g11 g12 gc sum len way file cb W s ops v) (hr : Kd.S k107 107 W1 w.heap.size (fun _ => True) v1 xs) (hb : Below w.heap.size W W1) (hg : W.grownBy W1 v.ownBlock) :
  PI w g2 g11 g12 gc sum len way file cb (W1.setCell ⟨g11, 3, none⟩ v1) s xs v1 := by
 obtain ⟨z, b, c, i, bl, a2, a11, a12, ne⟩ := h.gs
 have z1 : Z57 W1 g2 := blk_grown z hg (Kd.S_ne h.row z (by decide))
 have b1 := blk_grown b hg (Kd.S_ne h.row b (by decide))
 have c1 := blk_grown c hg (Kd.S_ne h.row c (by decide))
 have i1 : IsS122 w W1 gc cb (atOf cb s) s.2 := ⟨blk_grown i.1 hg (Kd.S_ne h.row i.1 (by decide)), i.2⟩
 exact ⟨⟨blk_far z1 ne _, blk_put b1 3 _ rfl, blk_far c1 (blk_ne c b (by decide)) _, IsS122.far i1 (IsS122.ne_blk i1 b1 (by decide)) _, below_set (bl.trans hb) a11, a2, a11, a12, ne⟩, h.good, Kd.S_set hr b1 (by decide) 3 v1⟩
end
set_option maxHeartbeats 4000000 in
set_option maxRecDepth 100000 in
theorem clo63 {w W : World} {g2 g11 g12 gc : Nat} {sum len way : Int} {file cb : ByteArray} {s : PS} {ops : List S107} {v : Value} (hcb : cb.size ≤ 140737488355328) (h : PI w g2 g11 g12 gc sum len way file cb W s ops v) (hl : ops.length < 16777216) :
  Calls Try.prog 63 #[.pointer (some ⟨g11, 0, none⟩), .pointer (some ⟨g12, 0, none⟩)] W fun e W' => e = .returned (.tuple #[]) ∧ ∃ v1, PI w g2 g11 g12 gc sum len way file cb W' (opP s).2 (ops ++ [(opP s).1]) v1 := by
 have x0 : W.cell? ⟨g11, 3, none⟩ = some v := (GS.c11 h.gs).1.2.2.2.1
 have x1 := GS.c12 h.gs
 have H := Lib.hid h
 have HL := Lib.hid hl
 clear h hl
 go_enter Try.func63, Try.ntmps63
 refine begu 7 (fun w' => w'.cell? ⟨g11, 3, none⟩ = some v ∧ w'.cell? ⟨g12, 0, none⟩ = some (.pointer (some ⟨gc, 0, none⟩))) ⟨x0, x1⟩ (fun hHeld => ?_)
 have H2 := Lib.hid H.out.drew
 clear H x0 x1
 generalize W.drew = W1 at H2 hHeld ⊢
 refine tku 0 rfl ?_ (.inl ⟨by rfl, ?_⟩) ?_
 rotate_left 1
 ·intro w hSw
  obtain ⟨s0, s1⟩ := hSw
  go_simp
  (try with_reducible rfl)
 (try simp only [Act.put, zq1, zq2, zq3, zq4, zq5, zq6])
 refine tku 1 rfl ?_ (.inl ⟨by rfl, ?_⟩) ?_
 rotate_left 1
 ·intro w hSw
  obtain ⟨s0, s1⟩ := hSw
  go_simp
  (try with_reducible rfl)
 (try simp only [Act.put, zq1, zq2, zq3, zq4, zq5, zq6])
 refine tku 2 rfl ?_ (.inl ⟨by rfl, ?_⟩) ?_
 rotate_left 1
 ·intro w hSw
  obtain ⟨s0, s1⟩ := hSw
  go_simp
  (try with_reducible rfl)
 (try simp only [Act.put, zq1, zq2, zq3, zq4, zq5, zq6])
 refine rdu 3 rfl (fun K hK => ?_)
 go_simp
 go_at_call 64
 refine (getop_calls (w0 := w) hcb (GS.is H2.out.gs) (GS.bel H2.out.gs) H2.out.good).mono ?_
 rintro e w2 ⟨v2, v3, v5, v6, v7, rfl, m2, i2, b2, k2⟩
 have H3 := Lib.hid (H2.out.call (H2.out.good.op) i2 b2 k2)
 have HS3 : Hid (Kd.S k107 107 w2 w.heap.size (fun k => True ∧ ¬ W1.heap.size ≤ k) v ops) := Lib.hid (Kd.S_mono (Kd.S_keep (Kd.S_types (Kd.S_bound H2.out.row) (GS.is H2.out.gs).1 (by decide)) k2 (fun _ h => h.2)) (fun k h => ⟨trivial, by have := h.1.2.2.1; omega⟩))
 have HM3 : Hid (k107.M w2 w.heap.size (fun k => W1.heap.size ≤ k) (opP s).1 [.int .i64 (opP s).1.f0, .int .i64 (opP s).1.f1, v2, v3, .int .i64 (opP s).1.f4.f0, v5, v6, v7]) := Lib.hid (k107.M_lower (GS.bel H2.out.gs).size (k107.M_mono (fun k hk => hk.2.1) (k107.M_bound m2)))
 have HV3 : Hid (∀ k, v.ownBlock = some k → k < W1.heap.size) := Lib.hid (Kd.S_lt H2.out.row)
 obtain ⟨A2, n2, c2, rfl⟩ : ∃ A n c, v2 = .slice A n c := by obtain ⟨_, _, _, _, _, hcs, g2, g3, g5, g6, g7⟩ := k107_openM m2; simp at hcs; obtain ⟨e2, e3, e5, e6, e7⟩ := hcs; rw [e2]; obtain ⟨A, c, e⟩ := Kd.R_slice g2; exact ⟨A, _, c, e⟩
 obtain ⟨A3, n3, c3, rfl⟩ : ∃ A n c, v3 = .slice A n c := by obtain ⟨_, _, _, _, _, hcs, g2, g3, g5, g6, g7⟩ := k107_openM m2; simp at hcs; obtain ⟨e3, e5, e6, e7⟩ := hcs.2; rw [e3]; obtain ⟨A, c, e⟩ := Kd.R_slice g3; exact ⟨A, _, c, e⟩
 obtain ⟨A5, n5, c5, rfl⟩ : ∃ A n c, v5 = .slice A n c := by obtain ⟨_, _, _, _, _, hcs, g2, g3, g5, g6, g7⟩ := k107_openM m2; simp at hcs; obtain ⟨e5, e6, e7⟩ := hcs.2.2; rw [e5]; obtain ⟨A, c, e⟩ := Kd.R_slice g5; exact ⟨A, _, c, e⟩
 obtain ⟨A6, n6, c6, rfl⟩ : ∃ A n c, v6 = .slice A n c := by obtain ⟨_, _, _, _, _, hcs, g2, g3, g5, g6, g7⟩ := k107_openM m2; simp at hcs; obtain ⟨e6, e7⟩ := hcs.2.2.2; rw [e6]; obtain ⟨A, c, e⟩ := Kd.R_slice g6; exact ⟨A, _, c, e⟩
 obtain ⟨A7, n7, c7, rfl⟩ : ∃ A n c, v7 = .slice A n c := by obtain ⟨_, _, _, _, _, hcs, g2, g3, g5, g6, g7⟩ := k107_openM m2; simp at hcs; have e7 := hcs.2.2.2.2; rw [e7]; obtain ⟨A, c, e⟩ := Kd.R_slice g7; exact ⟨A, _, c, e⟩
 clear m2 i2 b2 k2 H2 hHeld
 have x0 : w2.cell? ⟨g11, 3, none⟩ = some v := (GS.c11 H3.out.gs).1.2.2.2.1
 have x1 := GS.c12 H3.out.gs
 refine hK.out _ _ (fun _ => ⟨x0, x1⟩) (fun _ => ?_)
 clear hK K
 (try simp only [Act.put, zq1, zq2, zq3, zq4, zq5, zq6])
 refine rdu 4 rfl (fun K hK => ?_)
 go_simp
 refine hK.out _ _ (fun _ => ⟨pw_cell_below (below_alloc (Below.refl _ _) _) x0, pw_cell_below (below_alloc (Below.refl _ _) _) x1⟩) (fun _ => ?_)
 clear hK K
 (try simp only [Act.put, zq1, zq2, zq3, zq4, zq5, zq6])
 refine rdu 5 rfl (fun K hK => ?_)
 refine Kd.S_append_step k107 (w0 := w2) w.heap.size (by rfl) (.tmp 3) (.tmp 6) 55 107 (.agg zero8) 144 rfl Try.underlying55 i107 rfl (by decide) (by omega) v ops (opP s).1 _ (fun _ => True) (fun k => W1.heap.size ≤ k) rfl rfl HM3.out (fun k hk => ⟨trivial, fun e => Nat.lt_irrefl _ (Nat.lt_of_lt_of_le (HV3.out k e.symm) hk)⟩) (fun _ _ => trivial) HS3.out (Below.refl _ _) (GS.bel H3.out.gs).size (by have := HL.out; omega) ?_
 intro v1 w3 hr hb hg hat
 obtain ⟨A1, n1, c1, rfl⟩ : ∃ A n c, v1 = .slice A n c := by obtain ⟨A, c, e⟩ := Kd.S_slice hr; exact ⟨A, _, c, e⟩
 have hbx := blk_grown H3.out.gs.2.1 hg (Kd.S_ne H3.out.row H3.out.gs.2.1 (by decide))
 have hcp := blk_grown H3.out.gs.2.2.1 hg (Kd.S_ne H3.out.row H3.out.gs.2.2.1 (by decide))
 have H4 := Lib.hid (H3.out.put hr hb hg)
 have x0 : w3.cell? ⟨g11, 3, none⟩ = some v := (blk_cell hbx 3).trans rfl
 have x1 : w3.cell? ⟨g12, 0, none⟩ = some (.pointer (some ⟨gc, 0, none⟩)) := (blk_cell hcp 0).trans rfl
 have x2 := blk_frozen hbx 3
 clear hr hb hg hat hbx hcp H3 HS3 HM3 HV3
 refine hK.out _ _ (fun _ => ⟨x0, x1⟩) (fun hHeld => ?_)
 have hHeld := hHeld (by decide)
 clear hK K
 (try simp only [Act.put, zq1, zq2, zq3, zq4, zq5, zq6])
 refine tku 6 rfl ?_ (.inl ⟨by rfl, ?_⟩) ?_
 rotate_left 1
 ·intro w hSw
  obtain ⟨s0, s1⟩ := hSw
  go_simp
  (try with_reducible rfl)
 (try simp only [Act.put, zq1, zq2, zq3, zq4, zq5, zq6])
 refine rdu 7 rfl (fun K hK => ?_)
 go_simp
 refine hK.out _ _ (fun h => absurd rfl h) (fun _ => ?_)
 clear hK K
 (try simp only [Act.put, zq1, zq2, zq3, zq4, zq5, zq6])
 refine endu ?_ rfl _
 go_wp2_with fail
 go_end0
 exact ⟨rfl, _, H4.out⟩
theorem cnt63 {w W : World} {g2 g11 g12 gc : Nat} {sum len way : Int} {file cb : ByteArray} {s : PS} {v : Value} (hcb : cb.size ≤ 140737488355328) (h : PI w g2 g11 g12 gc sum len way file cb W s [] v) :
  Calls Try.prog 62 #[.pointer (some ⟨gc, 0, none⟩), .func (.func 63) #[] #[.pointer (some ⟨g11, 0, none⟩), .pointer (some ⟨g12, 0, none⟩)]] W fun e W' => e = .returned (.tuple #[]) ∧ ∃ v1, PI w g2 g11 g12 gc sum len way file cb W' (countP opP s).2 (countP opP s).1 v1 :=
 count_calls (F := 63) (Inv := fun xs s W => ∃ v1, PI w g2 g11 g12 gc sum len way file cb W s xs v1) (step := opP) Try.func63 (by kernel_rfl) rfl hcb (fun xs s W ⟨_, h⟩ => ⟨GS.is h.gs, GS.bel h.gs, h.good⟩) (fun xs s W s' W' ⟨_, h⟩ hg hi hb hk => ⟨_, h.call hg hi hb hk⟩) (fun xs s W ⟨_, h⟩ hn hl => clo63 hcb h hl) s W ⟨_, h⟩
end Go.Proofs.Ytdjpelcdijpihaa.PrintF
