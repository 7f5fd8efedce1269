/- A part of the proof of the claim: what it uses of the text HandPatchGet. -/
import Derived.Test.YtdjpelcdijpihaaShort
import Derived.Test.YtdjpelcdijpihaaVHandPatchOps
namespace Go.Proofs.Ytdjpelcdijpihaa.PrintF
open Go.RowKit Go.Proofs.Ytdjpelcdijpihaa.Print Go.Proofs.YtdjpelcdijpihaaW.PrintWords Go.Proofs.YtdjpelcdijpihaaW.PrintLast Go.Lib
set_option linter.unusedVariables false
set_option linter.unusedSimpArgs false
set_option maxHeartbeats 4000000 in
set_option maxRecDepth 100000 in
theorem get_err (k : Nat) (b : ByteArray) (w : World) (v : Int) (l : List S52) (e : Int) (hg : frame_Get.f k ⟨#[68, 73, 79, 80]⟩ b = some (v, l, e)) (he : e ≠ 0) :
  Calls Try.prog 39 #[.string b] w fun e_ w' => e_ = .returned (.tuple #[.agg #[.int .u32 0, .int .i64 0, .int .i64 0, .slice none 0 0, .string ⟨#[]⟩], .int .i64 (e)]) ∧ Below w.heap.size w w' := by
 have A1 := Aside0.mk hg
 clear hg
 have e1 : (e != 0) = true := bne_iff_ne.mpr he
 go_enter Try.func39, Try.ntmps39
 go_wp2_with (first | (go_at_call 32; (with_reducible refine (frame_Get.calls k _ b v _ e _ A1.out).mono ?_); rintro e w16 ⟨v230, rfl, ho0, hb⟩; have BK : Z57 w16 w.heap.size := blk_below (heap_alloc_new w _) hb; have HB := below_step (below_alloc (Below.refl w.heap.size w) _) hb; obtain ⟨⟨z0, z1, z2, z3, z4⟩, y0, y1, y2, y3, y4⟩ := BK.cells))
 refine bodyPost_ret (results_ct rfl _ _ w.heap.size 57 #[.int .u32 0, .int .i64 0, .int .i64 0, .slice none 0 0, .string ⟨#[]⟩] (0, 0) _ rfl (set57 _ _ _ _ _ BK) Try.underlying57 rfl (by kernel_rfl)) rfl ?_
 exact ⟨rfl, below57 _ _ _ _ _ HB (Nat.le_refl _)⟩
set_option maxHeartbeats 4000000 in
set_option maxRecDepth 100000 in
theorem get_ver (k : Nat) (b : ByteArray) (w : World) (v : Int) (l : List S52) (e : Int) (hg : frame_Get.f k ⟨#[68, 73, 79, 80]⟩ b = some (v, l, e)) (he : e = 0) (hv : v ≠ 2) :
  Calls Try.prog 39 #[.string b] w fun e_ w' => e_ = .returned (.tuple #[.agg #[.int .u32 0, .int .i64 0, .int .i64 0, .slice none 0 0, .string ⟨#[]⟩], .int .i64 (7)]) ∧ Below w.heap.size w w' := by
 have A1 := Aside0.mk hg
 clear hg
 have e1 : (e != 0) = false := bne_eq_false_iff_eq.mpr he
 have e2 : (v != 2) = true := bne_iff_ne.mpr hv
 go_enter Try.func39, Try.ntmps39
 go_wp2_with (first | (go_at_call 32; (with_reducible refine (frame_Get.calls k _ b v _ e _ A1.out).mono ?_); rintro e w16 ⟨v230, rfl, ho0, hb⟩; have BK : Z57 w16 w.heap.size := blk_below (heap_alloc_new w _) hb; have HB := below_step (below_alloc (Below.refl w.heap.size w) _) hb; obtain ⟨⟨z0, z1, z2, z3, z4⟩, y0, y1, y2, y3, y4⟩ := BK.cells))
 refine bodyPost_ret (results_ct rfl _ _ w.heap.size 57 #[.int .u32 0, .int .i64 0, .int .i64 0, .slice none 0 0, .string ⟨#[]⟩] (0, 0) _ rfl (set57 _ _ _ _ _ BK) Try.underlying57 rfl (by kernel_rfl)) rfl ?_
 exact ⟨rfl, below57 _ _ _ _ _ HB (Nat.le_refl _)⟩
set_option maxHeartbeats 4000000 in
set_option maxRecDepth 100000 in
theorem get_len (k : Nat) (b : ByteArray) (w : World) (v : Int) (l : List S52) (e : Int) (hg : frame_Get.f k ⟨#[68, 73, 79, 80]⟩ b = some (v, l, e)) (he : e = 0) (hv : v = 2) (hl : l.length ≠ 2) :
  Calls Try.prog 39 #[.string b] w fun e_ w' => e_ = .returned (.tuple #[.agg #[.int .u32 0, .int .i64 0, .int .i64 0, .slice none 0 0, .string ⟨#[]⟩], .int .i64 (4)]) ∧ Below w.heap.size w w' := by
 have A1 := Aside0.mk hg
 clear hg
 have e1 : (e != 0) = false := bne_eq_false_iff_eq.mpr he
 have e2 : (v != 2) = false := bne_eq_false_iff_eq.mpr hv
 have e3 : ((l.length : Int) != 2) = true := bne_iff_ne.mpr (by omega)
 go_enter Try.func39, Try.ntmps39
 go_wp2_with (first | (go_at_call 32; (with_reducible refine (frame_Get.calls k _ b v _ e _ A1.out).mono ?_); rintro e w16 ⟨v230, rfl, ho0, hb⟩; have BK : Z57 w16 w.heap.size := blk_below (heap_alloc_new w _) hb; have HB := below_step (below_alloc (Below.refl w.heap.size w) _) hb; obtain ⟨⟨z0, z1, z2, z3, z4⟩, y0, y1, y2, y3, y4⟩ := BK.cells; obtain ⟨A5, c5, rfl⟩ := Kd.R_slice ho0))
 refine bodyPost_ret (results_ct rfl _ _ w.heap.size 57 #[.int .u32 0, .int .i64 0, .int .i64 0, .slice none 0 0, .string ⟨#[]⟩] (0, 0) _ rfl (set57 _ _ _ _ _ BK) Try.underlying57 rfl (by kernel_rfl)) rfl ?_
 exact ⟨rfl, below57 _ _ _ _ _ HB (Nat.le_refl _)⟩
set_option maxHeartbeats 4000000 in
set_option maxRecDepth 100000 in
theorem get_id0 (k : Nat) (b : ByteArray) (w : World) (v : Int) (l : List S52) (e : Int) (hg : frame_Get.f k ⟨#[68, 73, 79, 80]⟩ b = some (v, l, e)) (he : e = 0) (hv : v = 2) (s0 s1 : S52) (hl : l = [s0, s1]) (h0 : s0.f0 ≠ 1) :
  Calls Try.prog 39 #[.string b] w fun e_ w' => e_ = .returned (.tuple #[.agg #[.int .u32 0, .int .i64 0, .int .i64 0, .slice none 0 0, .string ⟨#[]⟩], .int .i64 (4)]) ∧ Below w.heap.size w w' := by
 have A1 := Aside0.mk hg
 clear hg
 subst hl
 have e1 : (e != 0) = false := bne_eq_false_iff_eq.mpr he
 have e2 : (v != 2) = false := bne_eq_false_iff_eq.mpr hv
 have e4 : (s0.f0 != 1) = true := bne_iff_ne.mpr h0
 go_enter Try.func39, Try.ntmps39
 go_wp2_with (first | (go_at_call 32; (with_reducible refine (frame_Get.calls k _ b v _ e _ A1.out).mono ?_); rintro e w16 ⟨v230, rfl, ho0, hb⟩; have BK : Z57 w16 w.heap.size := blk_below (heap_alloc_new w _) hb; have HB := below_step (below_alloc (Below.refl w.heap.size w) _) hb; obtain ⟨⟨z0, z1, z2, z3, z4⟩, y0, y1, y2, y3, y4⟩ := BK.cells; obtain ⟨ad, c5, rfl, hc5, q0, q1, q2, q3⟩ := two_cells ho0))
 refine bodyPost_ret (results_ct rfl _ _ w.heap.size 57 #[.int .u32 0, .int .i64 0, .int .i64 0, .slice none 0 0, .string ⟨#[]⟩] (0, 0) _ rfl (set57 _ _ _ _ _ BK) Try.underlying57 rfl (by kernel_rfl)) rfl ?_
 exact ⟨rfl, below57 _ _ _ _ _ HB (Nat.le_refl _)⟩
set_option maxHeartbeats 4000000 in
set_option maxRecDepth 100000 in
theorem get_id1 (k : Nat) (b : ByteArray) (w : World) (v : Int) (l : List S52) (e : Int) (hg : frame_Get.f k ⟨#[68, 73, 79, 80]⟩ b = some (v, l, e)) (he : e = 0) (hv : v = 2) (s0 s1 : S52) (hl : l = [s0, s1]) (h0 : s0.f0 = 1) (h1 : s1.f0 ≠ 2) :
  Calls Try.prog 39 #[.string b] w fun e_ w' => e_ = .returned (.tuple #[.agg #[.int .u32 0, .int .i64 0, .int .i64 0, .slice none 0 0, .string ⟨#[]⟩], .int .i64 (4)]) ∧ Below w.heap.size w w' := by
 have A1 := Aside0.mk hg
 clear hg
 subst hl
 have e1 : (e != 0) = false := bne_eq_false_iff_eq.mpr he
 have e2 : (v != 2) = false := bne_eq_false_iff_eq.mpr hv
 have e4 : (s0.f0 != 1) = false := bne_eq_false_iff_eq.mpr h0
 have e5 : (s1.f0 != 2) = true := bne_iff_ne.mpr h1
 go_enter Try.func39, Try.ntmps39
 go_wp2_with (first | (go_at_call 32; (with_reducible refine (frame_Get.calls k _ b v _ e _ A1.out).mono ?_); rintro e w16 ⟨v230, rfl, ho0, hb⟩; have BK : Z57 w16 w.heap.size := blk_below (heap_alloc_new w _) hb; have HB := below_step (below_alloc (Below.refl w.heap.size w) _) hb; obtain ⟨⟨z0, z1, z2, z3, z4⟩, y0, y1, y2, y3, y4⟩ := BK.cells; obtain ⟨ad, c5, rfl, hc5, q0, q1, q2, q3⟩ := two_cells ho0))
 refine bodyPost_ret (results_ct rfl _ _ w.heap.size 57 #[.int .u32 0, .int .i64 0, .int .i64 0, .slice none 0 0, .string ⟨#[]⟩] (0, 0) _ rfl (set57 _ _ _ _ _ BK) Try.underlying57 rfl (by kernel_rfl)) rfl ?_
 exact ⟨rfl, below57 _ _ _ _ _ HB (Nat.le_refl _)⟩
set_option maxHeartbeats 4000000 in
set_option maxRecDepth 100000 in
theorem get_size (k : Nat) (b : ByteArray) (w : World) (v : Int) (l : List S52) (e : Int) (hg : frame_Get.f k ⟨#[68, 73, 79, 80]⟩ b = some (v, l, e)) (he : e = 0) (hv : v = 2) (s0 s1 : S52) (hl : l = [s0, s1]) (h0 : s0.f0 = 1) (h1 : s1.f0 = 2) (h9 : s0.f1.size ≠ 9) :
  Calls Try.prog 39 #[.string b] w fun e_ w' => e_ = .returned (.tuple #[.agg #[.int .u32 0, .int .i64 0, .int .i64 0, .slice none 0 0, .string ⟨#[]⟩], .int .i64 (4)]) ∧ Below w.heap.size w w' := by
 have A1 := Aside0.mk hg
 clear hg
 subst hl
 have e1 : (e != 0) = false := bne_eq_false_iff_eq.mpr he
 have e2 : (v != 2) = false := bne_eq_false_iff_eq.mpr hv
 have e4 : (s0.f0 != 1) = false := bne_eq_false_iff_eq.mpr h0
 have e5 : (s1.f0 != 2) = false := bne_eq_false_iff_eq.mpr h1
 have e6 : ((s0.f1.size : Int) != 9) = true := bne_iff_ne.mpr (by omega)
 go_enter Try.func39, Try.ntmps39
 go_wp2_with (first | (go_at_call 32; (with_reducible refine (frame_Get.calls k _ b v _ e _ A1.out).mono ?_); rintro e w16 ⟨v230, rfl, ho0, hb⟩; have BK : Z57 w16 w.heap.size := blk_below (heap_alloc_new w _) hb; have HB := below_step (below_alloc (Below.refl w.heap.size w) _) hb; obtain ⟨⟨z0, z1, z2, z3, z4⟩, y0, y1, y2, y3, y4⟩ := BK.cells; obtain ⟨ad, c5, rfl, hc5, q0, q1, q2, q3⟩ := two_cells ho0))
 refine bodyPost_ret (results_ct rfl _ _ w.heap.size 57 #[.int .u32 0, .int .i64 0, .int .i64 0, .slice none 0 0, .string ⟨#[]⟩] (0, 0) _ rfl (set57 _ _ _ _ _ BK) Try.underlying57 rfl (by kernel_rfl)) rfl ?_
 exact ⟨rfl, below57 _ _ _ _ _ HB (Nat.le_refl _)⟩
set_option maxHeartbeats 4000000 in
set_option maxRecDepth 100000 in
theorem get_w0e (k : Nat) (b : ByteArray) (w : World) (s0 s1 : S52) (hg : frame_Get.f k ⟨#[68, 73, 79, 80]⟩ b = some (2, [s0, s1], 0)) (h0 : s0.f0 = 1) (h1 : s1.f0 = 2) (h9 : s0.f1.size = 9)
  (sum len : Int) (ok0 ok1 : Bool) (hs : crc_Get.f (s0.f1.extract 0 4) = some (sum, ok0)) (hn : crc_Get.f (s0.f1.extract 4 8) = some (len, ok1)) (hln : 0 ≤ len ∧ len ≤ 4294967295) (way : Int) (hway : bt s0.f1 8 = way) (hw : way = 0) (n : Int) (hl : cursor_Cursor_Left.f s1.f1 0 none = some (n, s1.f1, 0, none)) (hn0 : ¬ 0 < n) :
  Calls Try.prog 39 #[.string b] w fun e_ w' => e_ = .returned (.tuple #[.agg #[.int .u32 sum, .int .i64 len, .int .i64 way, .slice none 0 0, .string ⟨#[]⟩], .int .i64 0]) ∧ Below w.heap.size w w' := by
 have HL := Aside0.mk hl
 clear hl
 have t1 : decide (0 < n) = false := decide_eq_false hn0
 have t2 : (way == 0) = true := beq_iff_eq.mpr hw
 clear hw hn0
 have HE : Aside0 (cursor_Cursor_Err.f s1.f1 0 none = some (0, s1.f1, 0, none)) := Aside0.mk rfl
 have A1 := Aside0.mk hg
 have A2 := Aside0.mk hs
 have A3 := Aside0.mk hn
 clear hg hs hn
 have e4 : (s0.f0 != 1) = false := bne_eq_false_iff_eq.mpr h0
 have e5 : (s1.f0 != 2) = false := bne_eq_false_iff_eq.mpr h1
 have e6 : ((s0.f1.size : Int) != 9) = false := bne_eq_false_iff_eq.mpr (by omega)
 have e7 : (s0.f1.size : Int) = 9 := by omega
 have e8 : ∀ h : 8 < s0.f1.size, ((s0.f1[8]'h).toNat : Int) = way := by rw [← hway]; exact bt_at s0.f1 8
 have hw0 : wrap64 way = way := by rw [← hway]; have := bt_range s0.f1 8; unfold wrap64; omega
 clear h0 h1 hway
 go_enter Try.func39, Try.ntmps39
 go_upto_region 11 with (first | (go_at_call 32; (with_reducible refine (frame_Get.calls k _ b 2 _ 0 _ A1.out).mono ?_); rintro e w16 ⟨v230, rfl, ho0, hb⟩; have BK : Z57 w16 w.heap.size := blk_below (heap_alloc_new w _) hb; have HB := below_step (below_alloc (Below.refl w.heap.size w) _) hb; obtain ⟨⟨z0, z1, z2, z3, z4⟩, y0, y1, y2, y3, y4⟩ := BK.cells; obtain ⟨ad, c5, rfl, hc5, q0, q1, q2, q3⟩ := two_cells ho0) | (go_at_call 23; (with_reducible refine (crc_Get.calls (s0.f1.extract 0 4) _ _ _ A2.out).mono ?_); rintro e w17 ⟨rfl, ⟨n17, rfl⟩⟩; clear A2) | (go_at_call 23; (with_reducible refine (crc_Get.calls (s0.f1.extract 4 8) _ _ _ A3.out).mono ?_); rintro e w18 ⟨rfl, ⟨n18, rfl⟩⟩; clear A3) | ((with_reducible refine gate_dst (N := 11) rfl ?_); refine box_event ?hg (N := 11) ?hd (cs := #[.int .u32 0, .int .i64 0, .int .i64 0, .slice none 0 0, .string ⟨#[]⟩]) (t := 57) ?hr ?_; (case hd => rfl); (case hg => rfl); (case hr => first | (go_simp; done) | (go_simp; rfl)); (intro g11 hg11 w19 hbox hb19; have HB1 := below_step (w := w) (by repeat (first | exact HB | apply pw_below_drewN)) hb19; have G11 : w.heap.size ≤ g11 := (by rw [hg11]; exact HB.size); have G2 : w.heap.size ≠ g11 := (by rw [hg11]; exact Nat.ne_of_lt (blk_lt BK)); have BK1 : Z57 w19 w.heap.size := blk_below (by repeat (first | exact BK | refine blk_drewN ?_ _)) hb19; have NA8 := World.block_lt_of_cell? _ _ q3; have NA0 : ad.block < w16.heap.size := NA8; clear NA8; have NA : ad.block ≠ g11 := (by rw [hg11]; exact Nat.ne_of_lt NA0); clear NA0; have Q0 : w19.cell? ⟨ad.block, ad.off + 3, none⟩ = some (.string s1.f1) := pw_cell_below hb19 q3; clear hg11; have x0 := (blk_cell hbox 0).trans rfl; have x1 := (blk_cell hbox 1).trans rfl; have x2 := (blk_cell hbox 2).trans rfl; have x3 := (blk_cell hbox 3).trans rfl; have x4 := (blk_cell hbox 4).trans rfl; have u0 := blk_frozen hbox 0; have u1 := blk_frozen hbox 1; have u2 := blk_frozen hbox 2; have u3 := blk_frozen hbox 3; have u4 := blk_frozen hbox 4)))
 have BG : (((((w19.setCell ⟨g11, 0, none⟩ (.int .u32 sum)).setCell ⟨g11, 1, none⟩ (.int .i64 len)).setCell ⟨g11, 2, none⟩ (.int .i64 way)).setCell ⟨g11, 3, none⟩ (.slice none 0 0)).setCell ⟨g11, 4, none⟩ (.string ⟨#[]⟩)).heap[g11]? = _ := set57 _ _ _ _ _ hbox
 have ZG : Z57 (((((w19.setCell ⟨g11, 0, none⟩ (.int .u32 sum)).setCell ⟨g11, 1, none⟩ (.int .i64 len)).setCell ⟨g11, 2, none⟩ (.int .i64 way)).setCell ⟨g11, 3, none⟩ (.slice none 0 0)).setCell ⟨g11, 4, none⟩ (.string ⟨#[]⟩)) w.heap.size := far57 _ _ _ _ _ BK1 G2
 have HBW : Below w.heap.size w (((((w19.setCell ⟨g11, 0, none⟩ (.int .u32 sum)).setCell ⟨g11, 1, none⟩ (.int .i64 len)).setCell ⟨g11, 2, none⟩ (.int .i64 way)).setCell ⟨g11, 3, none⟩ (.slice none 0 0)).setCell ⟨g11, 4, none⟩ (.string ⟨#[]⟩)) := below57 _ _ _ _ _ HB1 G11
 have QG : (((((w19.setCell ⟨g11, 0, none⟩ (.int .u32 sum)).setCell ⟨g11, 1, none⟩ (.int .i64 len)).setCell ⟨g11, 2, none⟩ (.int .i64 way)).setCell ⟨g11, 3, none⟩ (.slice none 0 0)).setCell ⟨g11, 4, none⟩ (.string ⟨#[]⟩)).cell? ⟨ad.block, ad.off + 3, none⟩ = some (.string s1.f1) := cellfar _ _ (cellfar _ _ (cellfar _ _ (cellfar _ _ (cellfar _ _ Q0 NA) NA) NA) NA) NA
 generalize (((((w19.setCell ⟨g11, 0, none⟩ (.int .u32 sum)).setCell ⟨g11, 1, none⟩ (.int .i64 len)).setCell ⟨g11, 2, none⟩ (.int .i64 way)).setCell ⟨g11, 3, none⟩ (.slice none 0 0)).setCell ⟨g11, 4, none⟩ (.string ⟨#[]⟩)) = W at BG ZG HBW QG ⊢
 clear z0 z1 z2 z3 z4 y0 y1 y2 y3 y4 x0 x1 x2 x3 x4 u0 u1 u2 u3 u4 Q0 BK BK1 HB1 hb19 hbox ho0 q0 q1 q2 q3 HB hb NA
 go_cut [12] (fun v12 wc => ∃ g12 gc : Nat, v12 = .pointer (some ⟨g12, 0, none⟩) ∧ Hid (GS w wc w.heap.size g11 g12 gc sum len way (.slice none 0 0) ⟨#[]⟩ s1.f1 0 none))
 case first =>
  go_wp2_with (first | (go_at_call 50; (with_reducible refine (cursor_New.calls s1.f1 _ _ _ w _ HBW rfl).mono ?_); rintro e w20 ⟨gc, rfl, hI, hB0, hb20⟩) | ((with_reducible refine gate_dst (N := 12) rfl ?_); refine box_event ?hg (N := 12) ?hd (cs := #[.pointer none]) (t := 86) ?hr ?_; (case hd => rfl); (case hg => rfl); (case hr => first | (go_simp; done) | (go_simp; rfl)); intro g12 hg12 w21 hbox2 hb21; have G12 : w.heap.size ≤ g12 := (by rw [hg12]; exact (hB0 : Below w.heap.size w w20).size); clear hg12; have p0 : w21.cell? ⟨g12, 0, none⟩ = some (.pointer none) := (blk_cell hbox2 0).trans rfl; have p1 := blk_frozen hbox2 0))
  go_meet
  case rel =>
   refine ⟨g12, gc, rfl, Lib.hid ⟨?_, ?_, ?_, ?_, ?_, Nat.le_refl _, G11, G12, G2⟩⟩
   ·exact blk_far (blk_below (blk_below ZG hb20) hb21) (blk_ne (blk_below (blk_below ZG hb20) hb21) hbox2 (by decide)) _
   ·exact blk_far (blk_below (blk_below BG hb20) hb21) (blk_ne (blk_below (blk_below BG hb20) hb21) hbox2 (by decide)) _
   ·exact blk_put (cs := #[.pointer none]) hbox2 0 _ rfl
   ·exact IsS122.far (IsS122.below hI hb21) (IsS122.ne_blk (IsS122.below hI hb21) hbox2 (by decide)) _
   ·exact below_set (below_step hB0 hb21) G12
 case rest =>
  clear BG ZG HBW QG G11
  obtain ⟨g12, gc, rfl, G⟩ := hcut
  have p0 := G.out.c12
  obtain ⟨⟨x0, x1, x2, x3, x4⟩, u4⟩ := G.out.c11
  obtain ⟨⟨z0, z1, z2, z3, z4⟩, y0, y1, y2, y3, y4⟩ := Z57.cells G.out.1
  go_wp2_with (first | (go_at_call 54; (with_reducible refine (cursor_Cursor_Left.calls gc s1.f1 0 none n s1.f1 0 none w _ (GS.is G.out) (GS.bel G.out) HL.out).mono ?_); rintro e w22 ⟨rfl, hI, hB, hk⟩; have GS22 := Lib.hid (GS.keep G.out hk hI hB); clear G; have G := GS22; clear GS22; clear hk hI hB; have p0 := G.out.c12; obtain ⟨⟨x0, x1, x2, x3, x4⟩, u4⟩ := G.out.c11; obtain ⟨⟨z0, z1, z2, z3, z4⟩, y0, y1, y2, y3, y4⟩ := Z57.cells G.out.1) | (go_at_call 53; (with_reducible refine (cursor_Cursor_Err.calls gc s1.f1 0 none 0 s1.f1 0 none w _ (GS.is G.out) (GS.bel G.out) HE.out).mono ?_); rintro e w23 ⟨rfl, hI, hB, hk⟩; have GS23 := Lib.hid (GS.keep G.out hk hI hB); clear G; have G := GS23; clear GS23; clear hk hI hB; have p0 := G.out.c12; obtain ⟨⟨x0, x1, x2, x3, x4⟩, u4⟩ := G.out.c11; obtain ⟨⟨z0, z1, z2, z3, z4⟩, y0, y1, y2, y3, y4⟩ := Z57.cells G.out.1))
  refine bodyPost_ret (results_ct rfl _ _ w.heap.size 57 #[.int .u32 sum, .int .i64 len, .int .i64 way, .slice none 0 0, .string ⟨#[]⟩] (0, 0) _ rfl (set57 _ _ _ _ _ G.out.1) Try.underlying57 rfl (by kernel_rfl)) rfl ?_
  exact ⟨rfl, below57 _ _ _ _ _ (GS.bel G.out) (Nat.le_refl _)⟩
set_option maxHeartbeats 4000000 in
set_option maxRecDepth 100000 in
theorem get_w0m (k : Nat) (b : ByteArray) (w : World) (s0 s1 : S52) (hg : frame_Get.f k ⟨#[68, 73, 79, 80]⟩ b = some (2, [s0, s1], 0)) (h0 : s0.f0 = 1) (h1 : s1.f0 = 2) (h9 : s0.f1.size = 9)
  (sum len : Int) (ok0 ok1 : Bool) (hs : crc_Get.f (s0.f1.extract 0 4) = some (sum, ok0)) (hn : crc_Get.f (s0.f1.extract 4 8) = some (len, ok1)) (hln : 0 ≤ len ∧ len ≤ 4294967295) (way : Int) (hway : bt s0.f1 8 = way) (hw : way = 0) (n : Int) (hl : cursor_Cursor_Left.f s1.f1 0 none = some (n, s1.f1, 0, none)) (hn0 : 0 < n) :
  Calls Try.prog 39 #[.string b] w fun e_ w' => e_ = .returned (.tuple #[.agg #[.int .u32 0, .int .i64 0, .int .i64 0, .slice none 0 0, .string ⟨#[]⟩], .int .i64 8]) ∧ Below w.heap.size w w' := by
 have HL := Aside0.mk hl
 clear hl
 have t1 : decide (0 < n) = true := decide_eq_true hn0
 have t2 : (way == 0) = true := beq_iff_eq.mpr hw
 clear hw hn0
 have HF : Aside0 (cursor_Cursor_Fail.f s1.f1 0 none 8 = some (s1.f1, 0, some 8)) := Aside0.mk rfl
 have HE : Aside0 (cursor_Cursor_Err.f s1.f1 0 (some 8) = some (8, s1.f1, 0, some 8)) := Aside0.mk rfl
 have A1 := Aside0.mk hg
 have A2 := Aside0.mk hs
 have A3 := Aside0.mk hn
 clear hg hs hn
 have e4 : (s0.f0 != 1) = false := bne_eq_false_iff_eq.mpr h0
 have e5 : (s1.f0 != 2) = false := bne_eq_false_iff_eq.mpr h1
 have e6 : ((s0.f1.size : Int) != 9) = false := bne_eq_false_iff_eq.mpr (by omega)
 have e7 : (s0.f1.size : Int) = 9 := by omega
 have e8 : ∀ h : 8 < s0.f1.size, ((s0.f1[8]'h).toNat : Int) = way := by rw [← hway]; exact bt_at s0.f1 8
 have hw0 : wrap64 way = way := by rw [← hway]; have := bt_range s0.f1 8; unfold wrap64; omega
 clear h0 h1 hway
 go_enter Try.func39, Try.ntmps39
 go_upto_region 11 with (first | (go_at_call 32; (with_reducible refine (frame_Get.calls k _ b 2 _ 0 _ A1.out).mono ?_); rintro e w16 ⟨v230, rfl, ho0, hb⟩; have BK : Z57 w16 w.heap.size := blk_below (heap_alloc_new w _) hb; have HB := below_step (below_alloc (Below.refl w.heap.size w) _) hb; obtain ⟨⟨z0, z1, z2, z3, z4⟩, y0, y1, y2, y3, y4⟩ := BK.cells; obtain ⟨ad, c5, rfl, hc5, q0, q1, q2, q3⟩ := two_cells ho0) | (go_at_call 23; (with_reducible refine (crc_Get.calls (s0.f1.extract 0 4) _ _ _ A2.out).mono ?_); rintro e w17 ⟨rfl, ⟨n17, rfl⟩⟩; clear A2) | (go_at_call 23; (with_reducible refine (crc_Get.calls (s0.f1.extract 4 8) _ _ _ A3.out).mono ?_); rintro e w18 ⟨rfl, ⟨n18, rfl⟩⟩; clear A3) | ((with_reducible refine gate_dst (N := 11) rfl ?_); refine box_event ?hg (N := 11) ?hd (cs := #[.int .u32 0, .int .i64 0, .int .i64 0, .slice none 0 0, .string ⟨#[]⟩]) (t := 57) ?hr ?_; (case hd => rfl); (case hg => rfl); (case hr => first | (go_simp; done) | (go_simp; rfl)); (intro g11 hg11 w19 hbox hb19; have HB1 := below_step (w := w) (by repeat (first | exact HB | apply pw_below_drewN)) hb19; have G11 : w.heap.size ≤ g11 := (by rw [hg11]; exact HB.size); have G2 : w.heap.size ≠ g11 := (by rw [hg11]; exact Nat.ne_of_lt (blk_lt BK)); have BK1 : Z57 w19 w.heap.size := blk_below (by repeat (first | exact BK | refine blk_drewN ?_ _)) hb19; have NA8 := World.block_lt_of_cell? _ _ q3; have NA0 : ad.block < w16.heap.size := NA8; clear NA8; have NA : ad.block ≠ g11 := (by rw [hg11]; exact Nat.ne_of_lt NA0); clear NA0; have Q0 : w19.cell? ⟨ad.block, ad.off + 3, none⟩ = some (.string s1.f1) := pw_cell_below hb19 q3; clear hg11; have x0 := (blk_cell hbox 0).trans rfl; have x1 := (blk_cell hbox 1).trans rfl; have x2 := (blk_cell hbox 2).trans rfl; have x3 := (blk_cell hbox 3).trans rfl; have x4 := (blk_cell hbox 4).trans rfl; have u0 := blk_frozen hbox 0; have u1 := blk_frozen hbox 1; have u2 := blk_frozen hbox 2; have u3 := blk_frozen hbox 3; have u4 := blk_frozen hbox 4)))
 have BG : (((((w19.setCell ⟨g11, 0, none⟩ (.int .u32 sum)).setCell ⟨g11, 1, none⟩ (.int .i64 len)).setCell ⟨g11, 2, none⟩ (.int .i64 way)).setCell ⟨g11, 3, none⟩ (.slice none 0 0)).setCell ⟨g11, 4, none⟩ (.string ⟨#[]⟩)).heap[g11]? = _ := set57 _ _ _ _ _ hbox
 have ZG : Z57 (((((w19.setCell ⟨g11, 0, none⟩ (.int .u32 sum)).setCell ⟨g11, 1, none⟩ (.int .i64 len)).setCell ⟨g11, 2, none⟩ (.int .i64 way)).setCell ⟨g11, 3, none⟩ (.slice none 0 0)).setCell ⟨g11, 4, none⟩ (.string ⟨#[]⟩)) w.heap.size := far57 _ _ _ _ _ BK1 G2
 have HBW : Below w.heap.size w (((((w19.setCell ⟨g11, 0, none⟩ (.int .u32 sum)).setCell ⟨g11, 1, none⟩ (.int .i64 len)).setCell ⟨g11, 2, none⟩ (.int .i64 way)).setCell ⟨g11, 3, none⟩ (.slice none 0 0)).setCell ⟨g11, 4, none⟩ (.string ⟨#[]⟩)) := below57 _ _ _ _ _ HB1 G11
 have QG : (((((w19.setCell ⟨g11, 0, none⟩ (.int .u32 sum)).setCell ⟨g11, 1, none⟩ (.int .i64 len)).setCell ⟨g11, 2, none⟩ (.int .i64 way)).setCell ⟨g11, 3, none⟩ (.slice none 0 0)).setCell ⟨g11, 4, none⟩ (.string ⟨#[]⟩)).cell? ⟨ad.block, ad.off + 3, none⟩ = some (.string s1.f1) := cellfar _ _ (cellfar _ _ (cellfar _ _ (cellfar _ _ (cellfar _ _ Q0 NA) NA) NA) NA) NA
 generalize (((((w19.setCell ⟨g11, 0, none⟩ (.int .u32 sum)).setCell ⟨g11, 1, none⟩ (.int .i64 len)).setCell ⟨g11, 2, none⟩ (.int .i64 way)).setCell ⟨g11, 3, none⟩ (.slice none 0 0)).setCell ⟨g11, 4, none⟩ (.string ⟨#[]⟩)) = W at BG ZG HBW QG ⊢
 clear z0 z1 z2 z3 z4 y0 y1 y2 y3 y4 x0 x1 x2 x3 x4 u0 u1 u2 u3 u4 Q0 BK BK1 HB1 hb19 hbox ho0 q0 q1 q2 q3 HB hb NA
 go_cut [12] (fun v12 wc => ∃ g12 gc : Nat, v12 = .pointer (some ⟨g12, 0, none⟩) ∧ Hid (GS w wc w.heap.size g11 g12 gc sum len way (.slice none 0 0) ⟨#[]⟩ s1.f1 0 none))
 case first =>
  go_wp2_with (first | (go_at_call 50; (with_reducible refine (cursor_New.calls s1.f1 _ _ _ w _ HBW rfl).mono ?_); rintro e w20 ⟨gc, rfl, hI, hB0, hb20⟩) | ((with_reducible refine gate_dst (N := 12) rfl ?_); refine box_event ?hg (N := 12) ?hd (cs := #[.pointer none]) (t := 86) ?hr ?_; (case hd => rfl); (case hg => rfl); (case hr => first | (go_simp; done) | (go_simp; rfl)); intro g12 hg12 w21 hbox2 hb21; have G12 : w.heap.size ≤ g12 := (by rw [hg12]; exact (hB0 : Below w.heap.size w w20).size); clear hg12; have p0 : w21.cell? ⟨g12, 0, none⟩ = some (.pointer none) := (blk_cell hbox2 0).trans rfl; have p1 := blk_frozen hbox2 0))
  go_meet
  case rel =>
   refine ⟨g12, gc, rfl, Lib.hid ⟨?_, ?_, ?_, ?_, ?_, Nat.le_refl _, G11, G12, G2⟩⟩
   ·exact blk_far (blk_below (blk_below ZG hb20) hb21) (blk_ne (blk_below (blk_below ZG hb20) hb21) hbox2 (by decide)) _
   ·exact blk_far (blk_below (blk_below BG hb20) hb21) (blk_ne (blk_below (blk_below BG hb20) hb21) hbox2 (by decide)) _
   ·exact blk_put (cs := #[.pointer none]) hbox2 0 _ rfl
   ·exact IsS122.far (IsS122.below hI hb21) (IsS122.ne_blk (IsS122.below hI hb21) hbox2 (by decide)) _
   ·exact below_set (below_step hB0 hb21) G12
 case rest =>
  clear BG ZG HBW QG G11
  obtain ⟨g12, gc, rfl, G⟩ := hcut
  have p0 := G.out.c12
  obtain ⟨⟨x0, x1, x2, x3, x4⟩, u4⟩ := G.out.c11
  obtain ⟨⟨z0, z1, z2, z3, z4⟩, y0, y1, y2, y3, y4⟩ := Z57.cells G.out.1
  go_wp2_with (first | (go_at_call 54; (with_reducible refine (cursor_Cursor_Left.calls gc s1.f1 0 none n s1.f1 0 none w _ (GS.is G.out) (GS.bel G.out) HL.out).mono ?_); rintro e w22 ⟨rfl, hI, hB, hk⟩; have GS22 := Lib.hid (GS.keep G.out hk hI hB); clear G; have G := GS22; clear GS22; clear hk hI hB; have p0 := G.out.c12; obtain ⟨⟨x0, x1, x2, x3, x4⟩, u4⟩ := G.out.c11; obtain ⟨⟨z0, z1, z2, z3, z4⟩, y0, y1, y2, y3, y4⟩ := Z57.cells G.out.1) | (go_at_call 52; (with_reducible refine (cursor_Cursor_Fail.calls gc s1.f1 0 none 8 s1.f1 0 (some 8) w _ (GS.is G.out) (GS.bel G.out) HF.out).mono ?_); rintro e w25 ⟨rfl, hI, hB, hk⟩; have GS25 := Lib.hid (GS.keep G.out hk hI hB); clear G; have G := GS25; clear GS25; clear hk hI hB; have p0 := G.out.c12; obtain ⟨⟨x0, x1, x2, x3, x4⟩, u4⟩ := G.out.c11; obtain ⟨⟨z0, z1, z2, z3, z4⟩, y0, y1, y2, y3, y4⟩ := Z57.cells G.out.1) | (go_at_call 53; (with_reducible refine (cursor_Cursor_Err.calls gc s1.f1 0 (some 8) 8 s1.f1 0 (some 8) w _ (GS.is G.out) (GS.bel G.out) HE.out).mono ?_); rintro e w23 ⟨rfl, hI, hB, hk⟩; have GS23 := Lib.hid (GS.keep G.out hk hI hB); clear G; have G := GS23; clear GS23; clear hk hI hB; have p0 := G.out.c12; obtain ⟨⟨x0, x1, x2, x3, x4⟩, u4⟩ := G.out.c11; obtain ⟨⟨z0, z1, z2, z3, z4⟩, y0, y1, y2, y3, y4⟩ := Z57.cells G.out.1))
  refine bodyPost_ret (results_ct rfl _ _ w.heap.size 57 #[.int .u32 0, .int .i64 0, .int .i64 0, .slice none 0 0, .string ⟨#[]⟩] (0, 0) _ rfl (set57 _ _ _ _ _ G.out.1) Try.underlying57 rfl (by kernel_rfl)) rfl ?_
  exact ⟨rfl, below57 _ _ _ _ _ (GS.bel G.out) (Nat.le_refl _)⟩
set_option maxHeartbeats 4000000 in
set_option maxRecDepth 100000 in
theorem get_wxe (k : Nat) (b : ByteArray) (w : World) (s0 s1 : S52) (hg : frame_Get.f k ⟨#[68, 73, 79, 80]⟩ b = some (2, [s0, s1], 0)) (h0 : s0.f0 = 1) (h1 : s1.f0 = 2) (h9 : s0.f1.size = 9)
  (sum len : Int) (ok0 ok1 : Bool) (hs : crc_Get.f (s0.f1.extract 0 4) = some (sum, ok0)) (hn : crc_Get.f (s0.f1.extract 4 8) = some (len, ok1)) (hln : 0 ≤ len ∧ len ≤ 4294967295) (way : Int) (hway : bt s0.f1 8 = way) (hw : way ≠ 0) (hw1 : way ≠ 1) (hw2 : way ≠ 2) (n : Int) (hl : cursor_Cursor_Left.f s1.f1 0 (some 1) = some (n, s1.f1, 0, some 1)) (hn0 : ¬ 0 < n) :
  Calls Try.prog 39 #[.string b] w fun e_ w' => e_ = .returned (.tuple #[.agg #[.int .u32 0, .int .i64 0, .int .i64 0, .slice none 0 0, .string ⟨#[]⟩], .int .i64 1]) ∧ Below w.heap.size w w' := by
 have HL := Aside0.mk hl
 clear hl
 have t1 : decide (0 < n) = false := decide_eq_false hn0
 have t2 : (way == 0) = false := beq_eq_false_iff_ne.mpr hw
 have t3 : (way == 1) = false := beq_eq_false_iff_ne.mpr hw1
 have t4 : (way == 2) = false := beq_eq_false_iff_ne.mpr hw2
 clear hw hw1 hw2 hn0
 have HF : Aside0 (cursor_Cursor_Fail.f s1.f1 0 none 1 = some (s1.f1, 0, some 1)) := Aside0.mk rfl
 have HF2 : Aside0 (cursor_Cursor_Fail.f s1.f1 0 (some 1) 8 = some (s1.f1, 0, some 1)) := Aside0.mk rfl
 have HE : Aside0 (cursor_Cursor_Err.f s1.f1 0 (some 1) = some (1, s1.f1, 0, some 1)) := Aside0.mk rfl
 have A1 := Aside0.mk hg
 have A2 := Aside0.mk hs
 have A3 := Aside0.mk hn
 clear hg hs hn
 have e4 : (s0.f0 != 1) = false := bne_eq_false_iff_eq.mpr h0
 have e5 : (s1.f0 != 2) = false := bne_eq_false_iff_eq.mpr h1
 have e6 : ((s0.f1.size : Int) != 9) = false := bne_eq_false_iff_eq.mpr (by omega)
 have e7 : (s0.f1.size : Int) = 9 := by omega
 have e8 : ∀ h : 8 < s0.f1.size, ((s0.f1[8]'h).toNat : Int) = way := by rw [← hway]; exact bt_at s0.f1 8
 have hw0 : wrap64 way = way := by rw [← hway]; have := bt_range s0.f1 8; unfold wrap64; omega
 clear h0 h1 hway
 go_enter Try.func39, Try.ntmps39
 go_upto_region 11 with (first | (go_at_call 32; (with_reducible refine (frame_Get.calls k _ b 2 _ 0 _ A1.out).mono ?_); rintro e w16 ⟨v230, rfl, ho0, hb⟩; have BK : Z57 w16 w.heap.size := blk_below (heap_alloc_new w _) hb; have HB := below_step (below_alloc (Below.refl w.heap.size w) _) hb; obtain ⟨⟨z0, z1, z2, z3, z4⟩, y0, y1, y2, y3, y4⟩ := BK.cells; obtain ⟨ad, c5, rfl, hc5, q0, q1, q2, q3⟩ := two_cells ho0) | (go_at_call 23; (with_reducible refine (crc_Get.calls (s0.f1.extract 0 4) _ _ _ A2.out).mono ?_); rintro e w17 ⟨rfl, ⟨n17, rfl⟩⟩; clear A2) | (go_at_call 23; (with_reducible refine (crc_Get.calls (s0.f1.extract 4 8) _ _ _ A3.out).mono ?_); rintro e w18 ⟨rfl, ⟨n18, rfl⟩⟩; clear A3) | ((with_reducible refine gate_dst (N := 11) rfl ?_); refine box_event ?hg (N := 11) ?hd (cs := #[.int .u32 0, .int .i64 0, .int .i64 0, .slice none 0 0, .string ⟨#[]⟩]) (t := 57) ?hr ?_; (case hd => rfl); (case hg => rfl); (case hr => first | (go_simp; done) | (go_simp; rfl)); (intro g11 hg11 w19 hbox hb19; have HB1 := below_step (w := w) (by repeat (first | exact HB | apply pw_below_drewN)) hb19; have G11 : w.heap.size ≤ g11 := (by rw [hg11]; exact HB.size); have G2 : w.heap.size ≠ g11 := (by rw [hg11]; exact Nat.ne_of_lt (blk_lt BK)); have BK1 : Z57 w19 w.heap.size := blk_below (by repeat (first | exact BK | refine blk_drewN ?_ _)) hb19; have NA8 := World.block_lt_of_cell? _ _ q3; have NA0 : ad.block < w16.heap.size := NA8; clear NA8; have NA : ad.block ≠ g11 := (by rw [hg11]; exact Nat.ne_of_lt NA0); clear NA0; have Q0 : w19.cell? ⟨ad.block, ad.off + 3, none⟩ = some (.string s1.f1) := pw_cell_below hb19 q3; clear hg11; have x0 := (blk_cell hbox 0).trans rfl; have x1 := (blk_cell hbox 1).trans rfl; have x2 := (blk_cell hbox 2).trans rfl; have x3 := (blk_cell hbox 3).trans rfl; have x4 := (blk_cell hbox 4).trans rfl; have u0 := blk_frozen hbox 0; have u1 := blk_frozen hbox 1; have u2 := blk_frozen hbox 2; have u3 := blk_frozen hbox 3; have u4 := blk_frozen hbox 4)))
 have BG : (((((w19.setCell ⟨g11, 0, none⟩ (.int .u32 sum)).setCell ⟨g11, 1, none⟩ (.int .i64 len)).setCell ⟨g11, 2, none⟩ (.int .i64 way)).setCell ⟨g11, 3, none⟩ (.slice none 0 0)).setCell ⟨g11, 4, none⟩ (.string ⟨#[]⟩)).heap[g11]? = _ := set57 _ _ _ _ _ hbox
 have ZG : Z57 (((((w19.setCell ⟨g11, 0, none⟩ (.int .u32 sum)).setCell ⟨g11, 1, none⟩ (.int .i64 len)).setCell ⟨g11, 2, none⟩ (.int .i64 way)).setCell ⟨g11, 3, none⟩ (.slice none 0 0)).setCell ⟨g11, 4, none⟩ (.string ⟨#[]⟩)) w.heap.size := far57 _ _ _ _ _ BK1 G2
 have HBW : Below w.heap.size w (((((w19.setCell ⟨g11, 0, none⟩ (.int .u32 sum)).setCell ⟨g11, 1, none⟩ (.int .i64 len)).setCell ⟨g11, 2, none⟩ (.int .i64 way)).setCell ⟨g11, 3, none⟩ (.slice none 0 0)).setCell ⟨g11, 4, none⟩ (.string ⟨#[]⟩)) := below57 _ _ _ _ _ HB1 G11
 have QG : (((((w19.setCell ⟨g11, 0, none⟩ (.int .u32 sum)).setCell ⟨g11, 1, none⟩ (.int .i64 len)).setCell ⟨g11, 2, none⟩ (.int .i64 way)).setCell ⟨g11, 3, none⟩ (.slice none 0 0)).setCell ⟨g11, 4, none⟩ (.string ⟨#[]⟩)).cell? ⟨ad.block, ad.off + 3, none⟩ = some (.string s1.f1) := cellfar _ _ (cellfar _ _ (cellfar _ _ (cellfar _ _ (cellfar _ _ Q0 NA) NA) NA) NA) NA
 generalize (((((w19.setCell ⟨g11, 0, none⟩ (.int .u32 sum)).setCell ⟨g11, 1, none⟩ (.int .i64 len)).setCell ⟨g11, 2, none⟩ (.int .i64 way)).setCell ⟨g11, 3, none⟩ (.slice none 0 0)).setCell ⟨g11, 4, none⟩ (.string ⟨#[]⟩)) = W at BG ZG HBW QG ⊢
 clear z0 z1 z2 z3 z4 y0 y1 y2 y3 y4 x0 x1 x2 x3 x4 u0 u1 u2 u3 u4 Q0 BK BK1 HB1 hb19 hbox ho0 q0 q1 q2 q3 HB hb NA
 go_cut [12] (fun v12 wc => ∃ g12 gc : Nat, v12 = .pointer (some ⟨g12, 0, none⟩) ∧ Hid (GS w wc w.heap.size g11 g12 gc sum len way (.slice none 0 0) ⟨#[]⟩ s1.f1 0 none))
 case first =>
  go_wp2_with (first | (go_at_call 50; (with_reducible refine (cursor_New.calls s1.f1 _ _ _ w _ HBW rfl).mono ?_); rintro e w20 ⟨gc, rfl, hI, hB0, hb20⟩) | ((with_reducible refine gate_dst (N := 12) rfl ?_); refine box_event ?hg (N := 12) ?hd (cs := #[.pointer none]) (t := 86) ?hr ?_; (case hd => rfl); (case hg => rfl); (case hr => first | (go_simp; done) | (go_simp; rfl)); intro g12 hg12 w21 hbox2 hb21; have G12 : w.heap.size ≤ g12 := (by rw [hg12]; exact (hB0 : Below w.heap.size w w20).size); clear hg12; have p0 : w21.cell? ⟨g12, 0, none⟩ = some (.pointer none) := (blk_cell hbox2 0).trans rfl; have p1 := blk_frozen hbox2 0))
  go_meet
  case rel =>
   refine ⟨g12, gc, rfl, Lib.hid ⟨?_, ?_, ?_, ?_, ?_, Nat.le_refl _, G11, G12, G2⟩⟩
   ·exact blk_far (blk_below (blk_below ZG hb20) hb21) (blk_ne (blk_below (blk_below ZG hb20) hb21) hbox2 (by decide)) _
   ·exact blk_far (blk_below (blk_below BG hb20) hb21) (blk_ne (blk_below (blk_below BG hb20) hb21) hbox2 (by decide)) _
   ·exact blk_put (cs := #[.pointer none]) hbox2 0 _ rfl
   ·exact IsS122.far (IsS122.below hI hb21) (IsS122.ne_blk (IsS122.below hI hb21) hbox2 (by decide)) _
   ·exact below_set (below_step hB0 hb21) G12
 case rest =>
  clear BG ZG HBW QG G11
  obtain ⟨g12, gc, rfl, G⟩ := hcut
  have p0 := G.out.c12
  obtain ⟨⟨x0, x1, x2, x3, x4⟩, u4⟩ := G.out.c11
  obtain ⟨⟨z0, z1, z2, z3, z4⟩, y0, y1, y2, y3, y4⟩ := Z57.cells G.out.1
  go_wp2_with (first | (go_at_call 52; (with_reducible refine (cursor_Cursor_Fail.calls gc s1.f1 0 none 1 s1.f1 0 (some 1) w _ (GS.is G.out) (GS.bel G.out) HF.out).mono ?_); rintro e w26 ⟨rfl, hI, hB, hk⟩; have GS26 := Lib.hid (GS.keep G.out hk hI hB); clear G; have G := GS26; clear GS26; clear hk hI hB; have p0 := G.out.c12; obtain ⟨⟨x0, x1, x2, x3, x4⟩, u4⟩ := G.out.c11; obtain ⟨⟨z0, z1, z2, z3, z4⟩, y0, y1, y2, y3, y4⟩ := Z57.cells G.out.1) | (go_at_call 54; (with_reducible refine (cursor_Cursor_Left.calls gc s1.f1 0 (some 1) n s1.f1 0 (some 1) w _ (GS.is G.out) (GS.bel G.out) HL.out).mono ?_); rintro e w24 ⟨rfl, hI, hB, hk⟩; have GS24 := Lib.hid (GS.keep G.out hk hI hB); clear G; have G := GS24; clear GS24; clear hk hI hB; have p0 := G.out.c12; obtain ⟨⟨x0, x1, x2, x3, x4⟩, u4⟩ := G.out.c11; obtain ⟨⟨z0, z1, z2, z3, z4⟩, y0, y1, y2, y3, y4⟩ := Z57.cells G.out.1) | (go_at_call 52; (with_reducible refine (cursor_Cursor_Fail.calls gc s1.f1 0 (some 1) 8 s1.f1 0 (some 1) w _ (GS.is G.out) (GS.bel G.out) HF2.out).mono ?_); rintro e w25 ⟨rfl, hI, hB, hk⟩; have GS25 := Lib.hid (GS.keep G.out hk hI hB); clear G; have G := GS25; clear GS25; clear hk hI hB; have p0 := G.out.c12; obtain ⟨⟨x0, x1, x2, x3, x4⟩, u4⟩ := G.out.c11; obtain ⟨⟨z0, z1, z2, z3, z4⟩, y0, y1, y2, y3, y4⟩ := Z57.cells G.out.1) | (go_at_call 53; (with_reducible refine (cursor_Cursor_Err.calls gc s1.f1 0 (some 1) 1 s1.f1 0 (some 1) w _ (GS.is G.out) (GS.bel G.out) HE.out).mono ?_); rintro e w23 ⟨rfl, hI, hB, hk⟩; have GS23 := Lib.hid (GS.keep G.out hk hI hB); clear G; have G := GS23; clear GS23; clear hk hI hB; have p0 := G.out.c12; obtain ⟨⟨x0, x1, x2, x3, x4⟩, u4⟩ := G.out.c11; obtain ⟨⟨z0, z1, z2, z3, z4⟩, y0, y1, y2, y3, y4⟩ := Z57.cells G.out.1))
  refine bodyPost_ret (results_ct rfl _ _ w.heap.size 57 #[.int .u32 0, .int .i64 0, .int .i64 0, .slice none 0 0, .string ⟨#[]⟩] (0, 0) _ rfl (set57 _ _ _ _ _ G.out.1) Try.underlying57 rfl (by kernel_rfl)) rfl ?_
  exact ⟨rfl, below57 _ _ _ _ _ (GS.bel G.out) (Nat.le_refl _)⟩
set_option maxHeartbeats 4000000 in
set_option maxRecDepth 100000 in
theorem get_wxm (k : Nat) (b : ByteArray) (w : World) (s0 s1 : S52) (hg : frame_Get.f k ⟨#[68, 73, 79, 80]⟩ b = some (2, [s0, s1], 0)) (h0 : s0.f0 = 1) (h1 : s1.f0 = 2) (h9 : s0.f1.size = 9)
  (sum len : Int) (ok0 ok1 : Bool) (hs : crc_Get.f (s0.f1.extract 0 4) = some (sum, ok0)) (hn : crc_Get.f (s0.f1.extract 4 8) = some (len, ok1)) (hln : 0 ≤ len ∧ len ≤ 4294967295) (way : Int) (hway : bt s0.f1 8 = way) (hw : way ≠ 0) (hw1 : way ≠ 1) (hw2 : way ≠ 2) (n : Int) (hl : cursor_Cursor_Left.f s1.f1 0 (some 1) = some (n, s1.f1, 0, some 1)) (hn0 : 0 < n) :
  Calls Try.prog 39 #[.string b] w fun e_ w' => e_ = .returned (.tuple #[.agg #[.int .u32 0, .int .i64 0, .int .i64 0, .slice none 0 0, .string ⟨#[]⟩], .int .i64 1]) ∧ Below w.heap.size w w' := by
 have HL := Aside0.mk hl
 clear hl
 have t1 : decide (0 < n) = true := decide_eq_true hn0
 have t2 : (way == 0) = false := beq_eq_false_iff_ne.mpr hw
 have t3 : (way == 1) = false := beq_eq_false_iff_ne.mpr hw1
 have t4 : (way == 2) = false := beq_eq_false_iff_ne.mpr hw2
 clear hw hw1 hw2 hn0
 have HF : Aside0 (cursor_Cursor_Fail.f s1.f1 0 none 1 = some (s1.f1, 0, some 1)) := Aside0.mk rfl
 have HF2 : Aside0 (cursor_Cursor_Fail.f s1.f1 0 (some 1) 8 = some (s1.f1, 0, some 1)) := Aside0.mk rfl
 have HE : Aside0 (cursor_Cursor_Err.f s1.f1 0 (some 1) = some (1, s1.f1, 0, some 1)) := Aside0.mk rfl
 have A1 := Aside0.mk hg
 have A2 := Aside0.mk hs
 have A3 := Aside0.mk hn
 clear hg hs hn
 have e4 : (s0.f0 != 1) = false := bne_eq_false_iff_eq.mpr h0
 have e5 : (s1.f0 != 2) = false := bne_eq_false_iff_eq.mpr h1
 have e6 : ((s0.f1.size : Int) != 9) = false := bne_eq_false_iff_eq.mpr (by omega)
 have e7 : (s0.f1.size : Int) = 9 := by omega
 have e8 : ∀ h : 8 < s0.f1.size, ((s0.f1[8]'h).toNat : Int) = way := by rw [← hway]; exact bt_at s0.f1 8
 have hw0 : wrap64 way = way := by rw [← hway]; have := bt_range s0.f1 8; unfold wrap64; omega
 clear h0 h1 hway
 go_enter Try.func39, Try.ntmps39
 go_upto_region 11 with (first | (go_at_call 32; (with_reducible refine (frame_Get.calls k _ b 2 _ 0 _ A1.out).mono ?_); rintro e w16 ⟨v230, rfl, ho0, hb⟩; have BK : Z57 w16 w.heap.size := blk_below (heap_alloc_new w _) hb; have HB := below_step (below_alloc (Below.refl w.heap.size w) _) hb; obtain ⟨⟨z0, z1, z2, z3, z4⟩, y0, y1, y2, y3, y4⟩ := BK.cells; obtain ⟨ad, c5, rfl, hc5, q0, q1, q2, q3⟩ := two_cells ho0) | (go_at_call 23; (with_reducible refine (crc_Get.calls (s0.f1.extract 0 4) _ _ _ A2.out).mono ?_); rintro e w17 ⟨rfl, ⟨n17, rfl⟩⟩; clear A2) | (go_at_call 23; (with_reducible refine (crc_Get.calls (s0.f1.extract 4 8) _ _ _ A3.out).mono ?_); rintro e w18 ⟨rfl, ⟨n18, rfl⟩⟩; clear A3) | ((with_reducible refine gate_dst (N := 11) rfl ?_); refine box_event ?hg (N := 11) ?hd (cs := #[.int .u32 0, .int .i64 0, .int .i64 0, .slice none 0 0, .string ⟨#[]⟩]) (t := 57) ?hr ?_; (case hd => rfl); (case hg => rfl); (case hr => first | (go_simp; done) | (go_simp; rfl)); (intro g11 hg11 w19 hbox hb19; have HB1 := below_step (w := w) (by repeat (first | exact HB | apply pw_below_drewN)) hb19; have G11 : w.heap.size ≤ g11 := (by rw [hg11]; exact HB.size); have G2 : w.heap.size ≠ g11 := (by rw [hg11]; exact Nat.ne_of_lt (blk_lt BK)); have BK1 : Z57 w19 w.heap.size := blk_below (by repeat (first | exact BK | refine blk_drewN ?_ _)) hb19; have NA8 := World.block_lt_of_cell? _ _ q3; have NA0 : ad.block < w16.heap.size := NA8; clear NA8; have NA : ad.block ≠ g11 := (by rw [hg11]; exact Nat.ne_of_lt NA0); clear NA0; have Q0 : w19.cell? ⟨ad.block, ad.off + 3, none⟩ = some (.string s1.f1) := pw_cell_below hb19 q3; clear hg11; have x0 := (blk_cell hbox 0).trans rfl; have x1 := (blk_cell hbox 1).trans rfl; have x2 := (blk_cell hbox 2).trans rfl; have x3 := (blk_cell hbox 3).trans rfl; have x4 := (blk_cell hbox 4).trans rfl; have u0 := blk_frozen hbox 0; have u1 := blk_frozen hbox 1; have u2 := blk_frozen hbox 2; have u3 := blk_frozen hbox 3; have u4 := blk_frozen hbox 4)))
 have BG : (((((w19.setCell ⟨g11, 0, none⟩ (.int .u32 sum)).setCell ⟨g11, 1, none⟩ (.int .i64 len)).setCell ⟨g11, 2, none⟩ (.int .i64 way)).setCell ⟨g11, 3, none⟩ (.slice none 0 0)).setCell ⟨g11, 4, none⟩ (.string ⟨#[]⟩)).heap[g11]? = _ := set57 _ _ _ _ _ hbox
 have ZG : Z57 (((((w19.setCell ⟨g11, 0, none⟩ (.int .u32 sum)).setCell ⟨g11, 1, none⟩ (.int .i64 len)).setCell ⟨g11, 2, none⟩ (.int .i64 way)).setCell ⟨g11, 3, none⟩ (.slice none 0 0)).setCell ⟨g11, 4, none⟩ (.string ⟨#[]⟩)) w.heap.size := far57 _ _ _ _ _ BK1 G2
 have HBW : Below w.heap.size w (((((w19.setCell ⟨g11, 0, none⟩ (.int .u32 sum)).setCell ⟨g11, 1, none⟩ (.int .i64 len)).setCell ⟨g11, 2, none⟩ (.int .i64 way)).setCell ⟨g11, 3, none⟩ (.slice none 0 0)).setCell ⟨g11, 4, none⟩ (.string ⟨#[]⟩)) := below57 _ _ _ _ _ HB1 G11
 have QG : (((((w19.setCell ⟨g11, 0, none⟩ (.int .u32 sum)).setCell ⟨g11, 1, none⟩ (.int .i64 len)).setCell ⟨g11, 2, none⟩ (.int .i64 way)).setCell ⟨g11, 3, none⟩ (.slice none 0 0)).setCell ⟨g11, 4, none⟩ (.string ⟨#[]⟩)).cell? ⟨ad.block, ad.off + 3, none⟩ = some (.string s1.f1) := cellfar _ _ (cellfar _ _ (cellfar _ _ (cellfar _ _ (cellfar _ _ Q0 NA) NA) NA) NA) NA
 generalize (((((w19.setCell ⟨g11, 0, none⟩ (.int .u32 sum)).setCell ⟨g11, 1, none⟩ (.int .i64 len)).setCell ⟨g11, 2, none⟩ (.int .i64 way)).setCell ⟨g11, 3, none⟩ (.slice none 0 0)).setCell ⟨g11, 4, none⟩ (.string ⟨#[]⟩)) = W at BG ZG HBW QG ⊢
 clear z0 z1 z2 z3 z4 y0 y1 y2 y3 y4 x0 x1 x2 x3 x4 u0 u1 u2 u3 u4 Q0 BK BK1 HB1 hb19 hbox ho0 q0 q1 q2 q3 HB hb NA
 go_cut [12] (fun v12 wc => ∃ g12 gc : Nat, v12 = .pointer (some ⟨g12, 0, none⟩) ∧ Hid (GS w wc w.heap.size g11 g12 gc sum len way (.slice none 0 0) ⟨#[]⟩ s1.f1 0 none))
 case first =>
  go_wp2_with (first | (go_at_call 50; (with_reducible refine (cursor_New.calls s1.f1 _ _ _ w _ HBW rfl).mono ?_); rintro e w20 ⟨gc, rfl, hI, hB0, hb20⟩) | ((with_reducible refine gate_dst (N := 12) rfl ?_); refine box_event ?hg (N := 12) ?hd (cs := #[.pointer none]) (t := 86) ?hr ?_; (case hd => rfl); (case hg => rfl); (case hr => first | (go_simp; done) | (go_simp; rfl)); intro g12 hg12 w21 hbox2 hb21; have G12 : w.heap.size ≤ g12 := (by rw [hg12]; exact (hB0 : Below w.heap.size w w20).size); clear hg12; have p0 : w21.cell? ⟨g12, 0, none⟩ = some (.pointer none) := (blk_cell hbox2 0).trans rfl; have p1 := blk_frozen hbox2 0))
  go_meet
  case rel =>
   refine ⟨g12, gc, rfl, Lib.hid ⟨?_, ?_, ?_, ?_, ?_, Nat.le_refl _, G11, G12, G2⟩⟩
   ·exact blk_far (blk_below (blk_below ZG hb20) hb21) (blk_ne (blk_below (blk_below ZG hb20) hb21) hbox2 (by decide)) _
   ·exact blk_far (blk_below (blk_below BG hb20) hb21) (blk_ne (blk_below (blk_below BG hb20) hb21) hbox2 (by decide)) _
   ·exact blk_put (cs := #[.pointer none]) hbox2 0 _ rfl
   ·exact IsS122.far (IsS122.below hI hb21) (IsS122.ne_blk (IsS122.below hI hb21) hbox2 (by decide)) _
   ·exact below_set (below_step hB0 hb21) G12
 case rest =>
  clear BG ZG HBW QG G11
  obtain ⟨g12, gc, rfl, G⟩ := hcut
  have p0 := G.out.c12
  obtain ⟨⟨x0, x1, x2, x3, x4⟩, u4⟩ := G.out.c11
  obtain ⟨⟨z0, z1, z2, z3, z4⟩, y0, y1, y2, y3, y4⟩ := Z57.cells G.out.1
  go_wp2_with (first | (go_at_call 52; (with_reducible refine (cursor_Cursor_Fail.calls gc s1.f1 0 none 1 s1.f1 0 (some 1) w _ (GS.is G.out) (GS.bel G.out) HF.out).mono ?_); rintro e w26 ⟨rfl, hI, hB, hk⟩; have GS26 := Lib.hid (GS.keep G.out hk hI hB); clear G; have G := GS26; clear GS26; clear hk hI hB; have p0 := G.out.c12; obtain ⟨⟨x0, x1, x2, x3, x4⟩, u4⟩ := G.out.c11; obtain ⟨⟨z0, z1, z2, z3, z4⟩, y0, y1, y2, y3, y4⟩ := Z57.cells G.out.1) | (go_at_call 54; (with_reducible refine (cursor_Cursor_Left.calls gc s1.f1 0 (some 1) n s1.f1 0 (some 1) w _ (GS.is G.out) (GS.bel G.out) HL.out).mono ?_); rintro e w24 ⟨rfl, hI, hB, hk⟩; have GS24 := Lib.hid (GS.keep G.out hk hI hB); clear G; have G := GS24; clear GS24; clear hk hI hB; have p0 := G.out.c12; obtain ⟨⟨x0, x1, x2, x3, x4⟩, u4⟩ := G.out.c11; obtain ⟨⟨z0, z1, z2, z3, z4⟩, y0, y1, y2, y3, y4⟩ := Z57.cells G.out.1) | (go_at_call 52; (with_reducible refine (cursor_Cursor_Fail.calls gc s1.f1 0 (some 1) 8 s1.f1 0 (some 1) w _ (GS.is G.out) (GS.bel G.out) HF2.out).mono ?_); rintro e w25 ⟨rfl, hI, hB, hk⟩; have GS25 := Lib.hid (GS.keep G.out hk hI hB); clear G; have G := GS25; clear GS25; clear hk hI hB; have p0 := G.out.c12; obtain ⟨⟨x0, x1, x2, x3, x4⟩, u4⟩ := G.out.c11; obtain ⟨⟨z0, z1, z2, z3, z4⟩, y0, y1, y2, y3, y4⟩ := Z57.cells G.out.1) | (go_at_call 53; (with_reducible refine (cursor_Cursor_Err.calls gc s1.f1 0 (some 1) 1 s1.f1 0 (some 1) w _ (GS.is G.out) (GS.bel G.out) HE.out).mono ?_); rintro e w23 ⟨rfl, hI, hB, hk⟩; have GS23 := Lib.hid (GS.keep G.out hk hI hB); clear G; have G := GS23; clear GS23; clear hk hI hB; have p0 := G.out.c12; obtain ⟨⟨x0, x1, x2, x3, x4⟩, u4⟩ := G.out.c11; obtain ⟨⟨z0, z1, z2, z3, z4⟩, y0, y1, y2, y3, y4⟩ := Z57.cells G.out.1))
  refine bodyPost_ret (results_ct rfl _ _ w.heap.size 57 #[.int .u32 0, .int .i64 0, .int .i64 0, .slice none 0 0, .string ⟨#[]⟩] (0, 0) _ rfl (set57 _ _ _ _ _ G.out.1) Try.underlying57 rfl (by kernel_rfl)) rfl ?_
  exact ⟨rfl, below57 _ _ _ _ _ (GS.bel G.out) (Nat.le_refl _)⟩
set_option maxHeartbeats 4000000 in
set_option maxRecDepth 100000 in
theorem get_w2 (k : Nat) (b : ByteArray) (w : World) (s0 s1 : S52) (hg : frame_Get.f k ⟨#[68, 73, 79, 80]⟩ b = some (2, [s0, s1], 0)) (h0 : s0.f0 = 1) (h1 : s1.f0 = 2) (h9 : s0.f1.size = 9)
  (sum len : Int) (ok0 ok1 : Bool) (hs : crc_Get.f (s0.f1.extract 0 4) = some (sum, ok0)) (hn : crc_Get.f (s0.f1.extract 4 8) = some (len, ok1)) (hln : 0 ≤ len ∧ len ≤ 4294967295) (way : Int) (hway : bt s0.f1 8 = way) (hw : way = 2) (n : Int) (hl : cursor_Cursor_Left.f s1.f1 0 none = some (n, s1.f1, 0, none)) (fb : ByteArray) (cb : ByteArray) (a : Int) (hbb : cursor_Cursor_Bytes.f s1.f1 0 none n = some (fb, cb, a, none)) (n2 : Int) (hl2 : cursor_Cursor_Left.f cb a none = some (n2, cb, a, none)) (hn0 : ¬ 0 < n2) :
  Calls Try.prog 39 #[.string b] w fun e_ w' => e_ = .returned (.tuple #[.agg #[.int .u32 sum, .int .i64 len, .int .i64 way, .slice none 0 0, .string fb], .int .i64 0]) ∧ Below w.heap.size w w' := by
 have HL := Aside0.mk hl
 have HBB := Aside0.mk hbb
 have HL2 := Aside0.mk hl2
 clear hl hbb hl2
 have t1 : decide (0 < n2) = false := decide_eq_false hn0
 have t2 : (way == 0) = false := beq_eq_false_iff_ne.mpr (by omega)
 have t3 : (way == 1) = false := beq_eq_false_iff_ne.mpr (by omega)
 have t4 : (way == 2) = true := beq_iff_eq.mpr hw
 clear hw hn0
 have HE : Aside0 (cursor_Cursor_Err.f cb a none = some (0, cb, a, none)) := Aside0.mk rfl
 have A1 := Aside0.mk hg
 have A2 := Aside0.mk hs
 have A3 := Aside0.mk hn
 clear hg hs hn
 have e4 : (s0.f0 != 1) = false := bne_eq_false_iff_eq.mpr h0
 have e5 : (s1.f0 != 2) = false := bne_eq_false_iff_eq.mpr h1
 have e6 : ((s0.f1.size : Int) != 9) = false := bne_eq_false_iff_eq.mpr (by omega)
 have e7 : (s0.f1.size : Int) = 9 := by omega
 have e8 : ∀ h : 8 < s0.f1.size, ((s0.f1[8]'h).toNat : Int) = way := by rw [← hway]; exact bt_at s0.f1 8
 have hw0 : wrap64 way = way := by rw [← hway]; have := bt_range s0.f1 8; unfold wrap64; omega
 clear h0 h1 hway
 go_enter Try.func39, Try.ntmps39
 go_upto_region 11 with (first | (go_at_call 32; (with_reducible refine (frame_Get.calls k _ b 2 _ 0 _ A1.out).mono ?_); rintro e w16 ⟨v230, rfl, ho0, hb⟩; have BK : Z57 w16 w.heap.size := blk_below (heap_alloc_new w _) hb; have HB := below_step (below_alloc (Below.refl w.heap.size w) _) hb; obtain ⟨⟨z0, z1, z2, z3, z4⟩, y0, y1, y2, y3, y4⟩ := BK.cells; obtain ⟨ad, c5, rfl, hc5, q0, q1, q2, q3⟩ := two_cells ho0) | (go_at_call 23; (with_reducible refine (crc_Get.calls (s0.f1.extract 0 4) _ _ _ A2.out).mono ?_); rintro e w17 ⟨rfl, ⟨n17, rfl⟩⟩; clear A2) | (go_at_call 23; (with_reducible refine (crc_Get.calls (s0.f1.extract 4 8) _ _ _ A3.out).mono ?_); rintro e w18 ⟨rfl, ⟨n18, rfl⟩⟩; clear A3) | ((with_reducible refine gate_dst (N := 11) rfl ?_); refine box_event ?hg (N := 11) ?hd (cs := #[.int .u32 0, .int .i64 0, .int .i64 0, .slice none 0 0, .string ⟨#[]⟩]) (t := 57) ?hr ?_; (case hd => rfl); (case hg => rfl); (case hr => first | (go_simp; done) | (go_simp; rfl)); (intro g11 hg11 w19 hbox hb19; have HB1 := below_step (w := w) (by repeat (first | exact HB | apply pw_below_drewN)) hb19; have G11 : w.heap.size ≤ g11 := (by rw [hg11]; exact HB.size); have G2 : w.heap.size ≠ g11 := (by rw [hg11]; exact Nat.ne_of_lt (blk_lt BK)); have BK1 : Z57 w19 w.heap.size := blk_below (by repeat (first | exact BK | refine blk_drewN ?_ _)) hb19; have NA8 := World.block_lt_of_cell? _ _ q3; have NA0 : ad.block < w16.heap.size := NA8; clear NA8; have NA : ad.block ≠ g11 := (by rw [hg11]; exact Nat.ne_of_lt NA0); clear NA0; have Q0 : w19.cell? ⟨ad.block, ad.off + 3, none⟩ = some (.string s1.f1) := pw_cell_below hb19 q3; clear hg11; have x0 := (blk_cell hbox 0).trans rfl; have x1 := (blk_cell hbox 1).trans rfl; have x2 := (blk_cell hbox 2).trans rfl; have x3 := (blk_cell hbox 3).trans rfl; have x4 := (blk_cell hbox 4).trans rfl; have u0 := blk_frozen hbox 0; have u1 := blk_frozen hbox 1; have u2 := blk_frozen hbox 2; have u3 := blk_frozen hbox 3; have u4 := blk_frozen hbox 4)))
 have BG : (((((w19.setCell ⟨g11, 0, none⟩ (.int .u32 sum)).setCell ⟨g11, 1, none⟩ (.int .i64 len)).setCell ⟨g11, 2, none⟩ (.int .i64 way)).setCell ⟨g11, 3, none⟩ (.slice none 0 0)).setCell ⟨g11, 4, none⟩ (.string ⟨#[]⟩)).heap[g11]? = _ := set57 _ _ _ _ _ hbox
 have ZG : Z57 (((((w19.setCell ⟨g11, 0, none⟩ (.int .u32 sum)).setCell ⟨g11, 1, none⟩ (.int .i64 len)).setCell ⟨g11, 2, none⟩ (.int .i64 way)).setCell ⟨g11, 3, none⟩ (.slice none 0 0)).setCell ⟨g11, 4, none⟩ (.string ⟨#[]⟩)) w.heap.size := far57 _ _ _ _ _ BK1 G2
 have HBW : Below w.heap.size w (((((w19.setCell ⟨g11, 0, none⟩ (.int .u32 sum)).setCell ⟨g11, 1, none⟩ (.int .i64 len)).setCell ⟨g11, 2, none⟩ (.int .i64 way)).setCell ⟨g11, 3, none⟩ (.slice none 0 0)).setCell ⟨g11, 4, none⟩ (.string ⟨#[]⟩)) := below57 _ _ _ _ _ HB1 G11
 have QG : (((((w19.setCell ⟨g11, 0, none⟩ (.int .u32 sum)).setCell ⟨g11, 1, none⟩ (.int .i64 len)).setCell ⟨g11, 2, none⟩ (.int .i64 way)).setCell ⟨g11, 3, none⟩ (.slice none 0 0)).setCell ⟨g11, 4, none⟩ (.string ⟨#[]⟩)).cell? ⟨ad.block, ad.off + 3, none⟩ = some (.string s1.f1) := cellfar _ _ (cellfar _ _ (cellfar _ _ (cellfar _ _ (cellfar _ _ Q0 NA) NA) NA) NA) NA
 generalize (((((w19.setCell ⟨g11, 0, none⟩ (.int .u32 sum)).setCell ⟨g11, 1, none⟩ (.int .i64 len)).setCell ⟨g11, 2, none⟩ (.int .i64 way)).setCell ⟨g11, 3, none⟩ (.slice none 0 0)).setCell ⟨g11, 4, none⟩ (.string ⟨#[]⟩)) = W at BG ZG HBW QG ⊢
 clear z0 z1 z2 z3 z4 y0 y1 y2 y3 y4 x0 x1 x2 x3 x4 u0 u1 u2 u3 u4 Q0 BK BK1 HB1 hb19 hbox ho0 q0 q1 q2 q3 HB hb NA
 go_cut [12] (fun v12 wc => ∃ g12 gc : Nat, v12 = .pointer (some ⟨g12, 0, none⟩) ∧ Hid (GS w wc w.heap.size g11 g12 gc sum len way (.slice none 0 0) ⟨#[]⟩ s1.f1 0 none))
 case first =>
  go_wp2_with (first | (go_at_call 50; (with_reducible refine (cursor_New.calls s1.f1 _ _ _ w _ HBW rfl).mono ?_); rintro e w20 ⟨gc, rfl, hI, hB0, hb20⟩) | ((with_reducible refine gate_dst (N := 12) rfl ?_); refine box_event ?hg (N := 12) ?hd (cs := #[.pointer none]) (t := 86) ?hr ?_; (case hd => rfl); (case hg => rfl); (case hr => first | (go_simp; done) | (go_simp; rfl)); intro g12 hg12 w21 hbox2 hb21; have G12 : w.heap.size ≤ g12 := (by rw [hg12]; exact (hB0 : Below w.heap.size w w20).size); clear hg12; have p0 : w21.cell? ⟨g12, 0, none⟩ = some (.pointer none) := (blk_cell hbox2 0).trans rfl; have p1 := blk_frozen hbox2 0))
  go_meet
  case rel =>
   refine ⟨g12, gc, rfl, Lib.hid ⟨?_, ?_, ?_, ?_, ?_, Nat.le_refl _, G11, G12, G2⟩⟩
   ·exact blk_far (blk_below (blk_below ZG hb20) hb21) (blk_ne (blk_below (blk_below ZG hb20) hb21) hbox2 (by decide)) _
   ·exact blk_far (blk_below (blk_below BG hb20) hb21) (blk_ne (blk_below (blk_below BG hb20) hb21) hbox2 (by decide)) _
   ·exact blk_put (cs := #[.pointer none]) hbox2 0 _ rfl
   ·exact IsS122.far (IsS122.below hI hb21) (IsS122.ne_blk (IsS122.below hI hb21) hbox2 (by decide)) _
   ·exact below_set (below_step hB0 hb21) G12
 case rest =>
  clear BG ZG HBW QG G11
  obtain ⟨g12, gc, rfl, G⟩ := hcut
  have p0 := G.out.c12
  obtain ⟨⟨x0, x1, x2, x3, x4⟩, u4⟩ := G.out.c11
  obtain ⟨⟨z0, z1, z2, z3, z4⟩, y0, y1, y2, y3, y4⟩ := Z57.cells G.out.1
  go_wp2_with (first | fail)
  refine wp_region_held_drew (S := fun w' => w'.cell? ⟨g12, 0, none⟩ = some (.pointer (some ⟨gc, 0, none⟩))) (by kernel_rfl) (GS.c12 (GS.drew G.out)) (fun hHeld => ?_)
  have G1 := Lib.hid (GS.drew G.out)
  clear G p0 x0 x1 x2 x3 x4 u4 z0 z1 z2 z3 z4 y0 y1 y2 y3 y4
  have G := G1
  clear G1
  refine tkz 0 rfl ?_ (.inl ⟨by rfl, ?_⟩) ?_
  rotate_left 1
  ·intro w hSw
   (try dsimp only at hSw)
   go_split_ands
   go_simp
   (try with_reducible rfl)
  (try simp only [Act.put, zq1, zq2, zq3, zq4, zq5, zq6])
  refine tkz 1 rfl ?_ (.inl ⟨by rfl, ?_⟩) ?_
  rotate_left 1
  ·intro w hSw
   (try dsimp only at hSw)
   go_split_ands
   go_simp
   (try with_reducible rfl)
  (try simp only [Act.put, zq1, zq2, zq3, zq4, zq5, zq6])
  refine wpAnyH_ready (rs := [2]) (by kernel_rfl) (by simp) ?_
  refine AllReadyH.cons (o := _) rfl (fun K hK => ?_) AllReadyH.nil
  go_simp
  go_at_call 54
  (with_reducible refine (cursor_Cursor_Left.calls gc s1.f1 0 none n s1.f1 0 none w _ (GS.is G.out) (GS.bel G.out) HL.out).mono ?_)
  rintro e w22 ⟨rfl, hI, hB, hk⟩
  have GS22 := Lib.hid (GS.keep G.out hk hI hB)
  clear G
  have G := GS22
  clear GS22
  clear hk hI hB
  have p0 := G.out.c12
  obtain ⟨⟨x0, x1, x2, x3, x4⟩, u4⟩ := G.out.c11
  obtain ⟨⟨z0, z1, z2, z3, z4⟩, y0, y1, y2, y3, y4⟩ := Z57.cells G.out.1
  refine hK.out _ _ p0 (fun hHeld => ?_)
  clear hK K
  clear x0 x1 x2 x3 x4 u4 z0 z1 z2 z3 z4 y0 y1 y2 y3 y4
  (try simp only [Act.put, zq1, zq2, zq3, zq4, zq5, zq6])
  refine wpAnyH_ready (rs := [3]) (by kernel_rfl) (by simp) ?_
  refine AllReadyH.cons (o := _) rfl (fun K hK => ?_) AllReadyH.nil
  go_simp
  go_at_call 65
  (with_reducible refine (cursor_Cursor_Bytes.calls gc s1.f1 0 none n fb cb a none w _ (GS.is G.out) (GS.bel G.out) HBB.out).mono ?_)
  rintro e w23 ⟨rfl, hI, hB, hk⟩
  have GS23 := Lib.hid (GS.keep G.out hk hI hB)
  clear G
  have G := GS23
  clear GS23
  clear hk hI hB
  have p0 := G.out.c12
  obtain ⟨⟨x0, x1, x2, x3, x4⟩, u4⟩ := G.out.c11
  obtain ⟨⟨z0, z1, z2, z3, z4⟩, y0, y1, y2, y3, y4⟩ := Z57.cells G.out.1
  refine hK.out _ _ p0 (fun hHeld => ?_)
  clear hK K
  (try simp only [Act.put, zq1, zq2, zq3, zq4, zq5, zq6])
  refine tkz 4 rfl ?_ (.inl ⟨by rfl, ?_⟩) ?_
  rotate_left 1
  ·intro w hSw
   (try dsimp only at hSw)
   go_split_ands
   go_simp
   (try with_reducible rfl)
  (try simp only [Act.put, zq1, zq2, zq3, zq4, zq5, zq6])
  refine wpAnyH_ready (rs := [5]) (by kernel_rfl) (by simp) ?_
  refine AllReadyH.cons (o := _) rfl (fun K hK => ?_) AllReadyH.nil
  go_simp
  refine hK.out _ _ (GS.c12 (GS.setf fb G.out)) (fun hHeld => ?_)
  clear hK K
  have G1 := Lib.hid (GS.setf fb G.out)
  generalize w23.setCell ⟨g11, 4, none⟩ (.string fb) = w25 at G1 hHeld ⊢
  clear G p0 x0 x1 x2 x3 x4 u4 z0 z1 z2 z3 z4 y0 y1 y2 y3 y4
  have G := G1
  clear G1
  (try simp only [Act.put, zq1, zq2, zq3, zq4, zq5, zq6])
  refine wpAnyH_done (by kernel_rfl) ?_ _
  have p0 := G.out.c12
  obtain ⟨⟨x0, x1, x2, x3, x4⟩, u4⟩ := G.out.c11
  obtain ⟨⟨z0, z1, z2, z3, z4⟩, y0, y1, y2, y3, y4⟩ := Z57.cells G.out.1
  go_wp2_with (first | (go_at_call 54; (with_reducible refine (cursor_Cursor_Left.calls gc cb a none n2 cb a none w _ (GS.is G.out) (GS.bel G.out) HL2.out).mono ?_); rintro e w24 ⟨rfl, hI, hB, hk⟩; have GS24 := Lib.hid (GS.keep G.out hk hI hB); clear G; have G := GS24; clear GS24; clear hk hI hB; have p0 := G.out.c12; obtain ⟨⟨x0, x1, x2, x3, x4⟩, u4⟩ := G.out.c11; obtain ⟨⟨z0, z1, z2, z3, z4⟩, y0, y1, y2, y3, y4⟩ := Z57.cells G.out.1) | (go_at_call 53; (with_reducible refine (cursor_Cursor_Err.calls gc cb a none 0 cb a none w _ (GS.is G.out) (GS.bel G.out) HE.out).mono ?_); rintro e w26 ⟨rfl, hI, hB, hk⟩; have GS26 := Lib.hid (GS.keep G.out hk hI hB); clear G; have G := GS26; clear GS26; clear hk hI hB; have p0 := G.out.c12; obtain ⟨⟨x0, x1, x2, x3, x4⟩, u4⟩ := G.out.c11; obtain ⟨⟨z0, z1, z2, z3, z4⟩, y0, y1, y2, y3, y4⟩ := Z57.cells G.out.1))
  refine bodyPost_ret (results_ct rfl _ _ w.heap.size 57 #[.int .u32 sum, .int .i64 len, .int .i64 way, .slice none 0 0, .string fb] (0, 0) _ rfl (set57 _ _ _ _ _ G.out.1) Try.underlying57 rfl (by kernel_rfl)) rfl ?_
  exact ⟨rfl, below57 _ _ _ _ _ (GS.bel G.out) (Nat.le_refl _)⟩
def w1Res (sum len way : Int) (r : List S107 × PS) : Int × Int × Int × List S107 × ByteArray × Int := match (if 0 < r.2.1.length then failP 8 r.2 else r.2).2 with
 | some e => (0, 0, 0, [], ⟨#[]⟩, e)
 | none => (sum, len, way, r.1, ⟨#[]⟩, 0)
theorem left_cur {cb : ByteArray} {s : PS} (hcb : cb.size ≤ 140737488355328) (hs : Good cb s) : cursor_Cursor_Left.f cb (atOf cb s) s.2 = some ((s.1.length : Int), cb, atOf cb s, s.2) := by
 obtain ⟨h1, _⟩ := suf_drop hs.1
 unfold cursor_Cursor_Left.f atOf
 rw [wrap_id (by omega) (by omega)]
 congr 2
 omega
theorem at_all (cb : ByteArray) : atOf cb (bs cb, none) = 0 := by
 unfold atOf
 rw [bs_length]
 simp
theorem S_res57 {W : World} {g base : Nat} {v : Value} {xs : List S107} {o0 o1 o2 o3 o4 : Value} (a b c d e : Value) (h : Kd.S k107 107 W base (fun _ => True) v xs) (hb : W.heap[g]? = some (.cells #[o0, o1, o2, o3, o4] 57 (0, 0))) :
  Kd.S k107 107 (((((W.setCell ⟨g, 0, none⟩ a).setCell ⟨g, 1, none⟩ b).setCell ⟨g, 2, none⟩ c).setCell ⟨g, 3, none⟩ d).setCell ⟨g, 4, none⟩ e) base (fun _ => True) v xs :=
 Kd.S_mono (Kd.S_move (Kd.S_types h hb (by decide)) (fun k hk => by rw [Below.heap_setCell _ _ _ _ hk.2, Below.heap_setCell _ _ _ _ hk.2, Below.heap_setCell _ _ _ _ hk.2, Below.heap_setCell _ _ _ _ hk.2, Below.heap_setCell _ _ _ _ hk.2])) (fun _ _ => trivial)
set_option maxHeartbeats 4000000 in
set_option maxRecDepth 100000 in
theorem get_w1 (k : Nat) (b : ByteArray) (w : World) (s0 s1 : S52) (hg : frame_Get.f k ⟨#[68, 73, 79, 80]⟩ b = some (2, [s0, s1], 0)) (h0 : s0.f0 = 1) (h1 : s1.f0 = 2) (h9 : s0.f1.size = 9)
  (sum len : Int) (ok0 ok1 : Bool) (hs : crc_Get.f (s0.f1.extract 0 4) = some (sum, ok0)) (hn : crc_Get.f (s0.f1.extract 4 8) = some (len, ok1)) (hln : 0 ≤ len ∧ len ≤ 4294967295) (way : Int) (hway : bt s0.f1 8 = way) (hw : way = 1) (hsz : s1.f1.size ≤ 140737488355328) (r : Int × Int × Int × List S107 × ByteArray × Int) (hr : w1Res sum len way (countP opP (bs s1.f1, none)) = r) :
  Calls Try.prog 39 #[.string b] w fun e_ w' => ∃ v_ : Value, e_ = .returned (.tuple #[.agg #[.int .u32 r.1, .int .i64 r.2.1, .int .i64 r.2.2.1, v_, .string r.2.2.2.2.1], .int .i64 r.2.2.2.2.2]) ∧ Kd.S k107 107 w' w.heap.size (fun _ => True) v_ r.2.2.2.1 ∧ Below w.heap.size w w' := by
 have t2 : (way == 0) = false := beq_eq_false_iff_ne.mpr (by omega)
 have t3 : (way == 1) = true := beq_iff_eq.mpr hw
 clear hw
 obtain ⟨ops, ⟨L, er⟩, hR⟩ : ∃ ops st, countP opP (bs s1.f1, none) = (ops, st) := ⟨_, _, rfl⟩
 have HR := Lib.hid hR
 have hgd : Good s1.f1 (L, er) := by have := Good.count (fun _ h => h.op) (show Good s1.f1 (bs s1.f1, none) from ⟨List.suffix_refl _, fun _ h => by cases h⟩); rw [hR] at this; exact this
 have hne : ∀ x, er = some x → x ≠ 0 := hgd.2
 have HNE := Lib.hid hne
 have HHR := Lib.hid hr
 clear hR hgd hr hne
 have A1 := Aside0.mk hg
 have A2 := Aside0.mk hs
 have A3 := Aside0.mk hn
 clear hg hs hn
 have e4 : (s0.f0 != 1) = false := bne_eq_false_iff_eq.mpr h0
 have e5 : (s1.f0 != 2) = false := bne_eq_false_iff_eq.mpr h1
 have e6 : ((s0.f1.size : Int) != 9) = false := bne_eq_false_iff_eq.mpr (by omega)
 have e7 : (s0.f1.size : Int) = 9 := by omega
 have e8 : ∀ h : 8 < s0.f1.size, ((s0.f1[8]'h).toNat : Int) = way := by rw [← hway]; exact bt_at s0.f1 8
 have hw0 : wrap64 way = way := by rw [← hway]; have := bt_range s0.f1 8; unfold wrap64; omega
 clear h0 h1 hway
 go_enter Try.func39, Try.ntmps39
 go_upto_region 11 with (first | (go_at_call 32; (with_reducible refine (frame_Get.calls k _ b 2 _ 0 _ A1.out).mono ?_); rintro e w16 ⟨v230, rfl, ho0, hb⟩; have BK : Z57 w16 w.heap.size := blk_below (heap_alloc_new w _) hb; have HB := below_step (below_alloc (Below.refl w.heap.size w) _) hb; obtain ⟨⟨z0, z1, z2, z3, z4⟩, y0, y1, y2, y3, y4⟩ := BK.cells; obtain ⟨ad, c5, rfl, hc5, q0, q1, q2, q3⟩ := two_cells ho0) | (go_at_call 23; (with_reducible refine (crc_Get.calls (s0.f1.extract 0 4) _ _ _ A2.out).mono ?_); rintro e w17 ⟨rfl, ⟨n17, rfl⟩⟩; clear A2) | (go_at_call 23; (with_reducible refine (crc_Get.calls (s0.f1.extract 4 8) _ _ _ A3.out).mono ?_); rintro e w18 ⟨rfl, ⟨n18, rfl⟩⟩; clear A3) | ((with_reducible refine gate_dst (N := 11) rfl ?_); refine box_event ?hg (N := 11) ?hd (cs := #[.int .u32 0, .int .i64 0, .int .i64 0, .slice none 0 0, .string ⟨#[]⟩]) (t := 57) ?hr ?_; (case hd => rfl); (case hg => rfl); (case hr => first | (go_simp; done) | (go_simp; rfl)); (intro g11 hg11 w19 hbox hb19; have HB1 := below_step (w := w) (by repeat (first | exact HB | apply pw_below_drewN)) hb19; have G11 : w.heap.size ≤ g11 := (by rw [hg11]; exact HB.size); have G2 : w.heap.size ≠ g11 := (by rw [hg11]; exact Nat.ne_of_lt (blk_lt BK)); have BK1 : Z57 w19 w.heap.size := blk_below (by repeat (first | exact BK | refine blk_drewN ?_ _)) hb19; have NA8 := World.block_lt_of_cell? _ _ q3; have NA0 : ad.block < w16.heap.size := NA8; clear NA8; have NA : ad.block ≠ g11 := (by rw [hg11]; exact Nat.ne_of_lt NA0); clear NA0; have Q0 : w19.cell? ⟨ad.block, ad.off + 3, none⟩ = some (.string s1.f1) := pw_cell_below hb19 q3; clear hg11; have x0 := (blk_cell hbox 0).trans rfl; have x1 := (blk_cell hbox 1).trans rfl; have x2 := (blk_cell hbox 2).trans rfl; have x3 := (blk_cell hbox 3).trans rfl; have x4 := (blk_cell hbox 4).trans rfl; have u0 := blk_frozen hbox 0; have u1 := blk_frozen hbox 1; have u2 := blk_frozen hbox 2; have u3 := blk_frozen hbox 3; have u4 := blk_frozen hbox 4)))
 have BG : (((((w19.setCell ⟨g11, 0, none⟩ (.int .u32 sum)).setCell ⟨g11, 1, none⟩ (.int .i64 len)).setCell ⟨g11, 2, none⟩ (.int .i64 way)).setCell ⟨g11, 3, none⟩ (.slice none 0 0)).setCell ⟨g11, 4, none⟩ (.string ⟨#[]⟩)).heap[g11]? = _ := set57 _ _ _ _ _ hbox
 have ZG : Z57 (((((w19.setCell ⟨g11, 0, none⟩ (.int .u32 sum)).setCell ⟨g11, 1, none⟩ (.int .i64 len)).setCell ⟨g11, 2, none⟩ (.int .i64 way)).setCell ⟨g11, 3, none⟩ (.slice none 0 0)).setCell ⟨g11, 4, none⟩ (.string ⟨#[]⟩)) w.heap.size := far57 _ _ _ _ _ BK1 G2
 have HBW : Below w.heap.size w (((((w19.setCell ⟨g11, 0, none⟩ (.int .u32 sum)).setCell ⟨g11, 1, none⟩ (.int .i64 len)).setCell ⟨g11, 2, none⟩ (.int .i64 way)).setCell ⟨g11, 3, none⟩ (.slice none 0 0)).setCell ⟨g11, 4, none⟩ (.string ⟨#[]⟩)) := below57 _ _ _ _ _ HB1 G11
 have QG : (((((w19.setCell ⟨g11, 0, none⟩ (.int .u32 sum)).setCell ⟨g11, 1, none⟩ (.int .i64 len)).setCell ⟨g11, 2, none⟩ (.int .i64 way)).setCell ⟨g11, 3, none⟩ (.slice none 0 0)).setCell ⟨g11, 4, none⟩ (.string ⟨#[]⟩)).cell? ⟨ad.block, ad.off + 3, none⟩ = some (.string s1.f1) := cellfar _ _ (cellfar _ _ (cellfar _ _ (cellfar _ _ (cellfar _ _ Q0 NA) NA) NA) NA) NA
 generalize (((((w19.setCell ⟨g11, 0, none⟩ (.int .u32 sum)).setCell ⟨g11, 1, none⟩ (.int .i64 len)).setCell ⟨g11, 2, none⟩ (.int .i64 way)).setCell ⟨g11, 3, none⟩ (.slice none 0 0)).setCell ⟨g11, 4, none⟩ (.string ⟨#[]⟩)) = W at BG ZG HBW QG ⊢
 clear z0 z1 z2 z3 z4 y0 y1 y2 y3 y4 x0 x1 x2 x3 x4 u0 u1 u2 u3 u4 Q0 BK BK1 HB1 hb19 hbox ho0 q0 q1 q2 q3 HB hb NA
 go_cut [12] (fun v12 wc => ∃ g12 gc : Nat, v12 = .pointer (some ⟨g12, 0, none⟩) ∧ Hid (GS w wc w.heap.size g11 g12 gc sum len way (.slice none 0 0) ⟨#[]⟩ s1.f1 0 none))
 case first =>
  go_wp2_with (first | (go_at_call 50; (with_reducible refine (cursor_New.calls s1.f1 _ _ _ w _ HBW rfl).mono ?_); rintro e w20 ⟨gc, rfl, hI, hB0, hb20⟩) | ((with_reducible refine gate_dst (N := 12) rfl ?_); refine box_event ?hg (N := 12) ?hd (cs := #[.pointer none]) (t := 86) ?hr ?_; (case hd => rfl); (case hg => rfl); (case hr => first | (go_simp; done) | (go_simp; rfl)); intro g12 hg12 w21 hbox2 hb21; have G12 : w.heap.size ≤ g12 := (by rw [hg12]; exact (hB0 : Below w.heap.size w w20).size); clear hg12; have p0 : w21.cell? ⟨g12, 0, none⟩ = some (.pointer none) := (blk_cell hbox2 0).trans rfl; have p1 := blk_frozen hbox2 0))
  go_meet
  case rel =>
   refine ⟨g12, gc, rfl, Lib.hid ⟨?_, ?_, ?_, ?_, ?_, Nat.le_refl _, G11, G12, G2⟩⟩
   ·exact blk_far (blk_below (blk_below ZG hb20) hb21) (blk_ne (blk_below (blk_below ZG hb20) hb21) hbox2 (by decide)) _
   ·exact blk_far (blk_below (blk_below BG hb20) hb21) (blk_ne (blk_below (blk_below BG hb20) hb21) hbox2 (by decide)) _
   ·exact blk_put (cs := #[.pointer none]) hbox2 0 _ rfl
   ·exact IsS122.far (IsS122.below hI hb21) (IsS122.ne_blk (IsS122.below hI hb21) hbox2 (by decide)) _
   ·exact below_set (below_step hB0 hb21) G12
 case rest =>
  clear BG ZG HBW QG G11
  obtain ⟨g12, gc, rfl, G⟩ := hcut
  have P0 : Hid (PI w w.heap.size g11 g12 gc sum len way ⟨#[]⟩ s1.f1 wc (bs s1.f1, none) [] (.slice none 0 0)) := Lib.hid ⟨by rw [at_all]; exact G.out, ⟨List.suffix_refl _, fun _ h => by cases h⟩, Kd.S_nil _ _ _ _ _⟩
  have p0 := G.out.c12
  obtain ⟨⟨x0, x1, x2, x3, x4⟩, u4⟩ := G.out.c11
  obtain ⟨⟨z0, z1, z2, z3, z4⟩, y0, y1, y2, y3, y4⟩ := Z57.cells G.out.1
  clear G
  have hr := HHR.out
  have hne := HNE.out
  clear HHR HNE
  by_cases hL : 0 < L.length
  ·have t1 : decide (0 < L.length) = true := decide_eq_true hL
   have t1b : (0 < L.length) = True := eq_true hL
   cases er with
   | none =>
    have hres : r = (0, 0, 0, [], ⟨#[]⟩, 8) := by rw [← hr, HR.out]; simp [w1Res, failP, hL]
    have HRES := Lib.hid hres
    clear hres hr hL
    go_wp2_with (first | (go_at_call 62; refine (cnt63 hsz P0.out).mono ?_; rintro e w23 ⟨rfl, v3, n_⟩; rw [HR.out] at n_; have P := Lib.hid n_; clear n_ P0; obtain ⟨A3, n3, c3, rfl⟩ : ∃ A n c, v3 = .slice A n c := (by obtain ⟨A, c, e⟩ := Kd.S_slice P.out.row; exact ⟨A, _, c, e⟩); have p0 := GS.c12 P.out.gs; obtain ⟨⟨x0, x1, x2, x3, x4⟩, u4⟩ := GS.c11 P.out.gs; obtain ⟨⟨z0, z1, z2, z3, z4⟩, y0, y1, y2, y3, y4⟩ := Z57.cells P.out.gs.1) | (go_at_call 54; refine (cursor_Cursor_Left.calls gc s1.f1 (atOf s1.f1 (L, none)) (none) (L.length : Int) s1.f1 (atOf s1.f1 (L, none)) (none) w _ (GS.is P.out.gs) (GS.bel P.out.gs) (left_cur hsz P.out.good)).mono ?_; rintro e w24 ⟨rfl, i_, b_, k_⟩; have n_ := Lib.hid (P.out.call P.out.good i_ b_ k_); clear P i_ b_ k_; have P := n_; clear n_; have p0 := GS.c12 P.out.gs; obtain ⟨⟨x0, x1, x2, x3, x4⟩, u4⟩ := GS.c11 P.out.gs; obtain ⟨⟨z0, z1, z2, z3, z4⟩, y0, y1, y2, y3, y4⟩ := Z57.cells P.out.gs.1) | (go_at_call 52; refine (cursor_Cursor_Fail.calls gc s1.f1 (atOf s1.f1 (L, none)) (none) 8 s1.f1 (atOf s1.f1 (L, some 8)) (some 8) w _ (GS.is P.out.gs) (GS.bel P.out.gs) (fail_cur 8 (by decide) (L, none)).1).mono ?_; rintro e w25 ⟨rfl, i_, b_, k_⟩; have n_ := Lib.hid (P.out.call (P.out.good.fail (e := 8) (by decide)) i_ b_ k_); clear P i_ b_ k_; have P := n_; clear n_; have p0 := GS.c12 P.out.gs; obtain ⟨⟨x0, x1, x2, x3, x4⟩, u4⟩ := GS.c11 P.out.gs; obtain ⟨⟨z0, z1, z2, z3, z4⟩, y0, y1, y2, y3, y4⟩ := Z57.cells P.out.gs.1) | (go_at_call 53; refine (cursor_Cursor_Err.calls gc s1.f1 (atOf s1.f1 (L, some 8)) (some 8) (8) s1.f1 (atOf s1.f1 (L, some 8)) (some 8) w _ (GS.is P.out.gs) (GS.bel P.out.gs) rfl).mono ?_; rintro e w26 ⟨rfl, i_, b_, k_⟩; have n_ := Lib.hid (P.out.call P.out.good i_ b_ k_); clear P i_ b_ k_; have P := n_; clear n_; have p0 := GS.c12 P.out.gs; obtain ⟨⟨x0, x1, x2, x3, x4⟩, u4⟩ := GS.c11 P.out.gs; obtain ⟨⟨z0, z1, z2, z3, z4⟩, y0, y1, y2, y3, y4⟩ := Z57.cells P.out.gs.1))
    refine bodyPost_ret (results_ct rfl _ _ w.heap.size 57 #[.int .u32 0, .int .i64 0, .int .i64 0, .slice none 0 0, .string ⟨#[]⟩] (0, 0) _ rfl (set57 _ _ _ _ _ P.out.gs.1) Try.underlying57 rfl (by kernel_rfl)) rfl ?_
    rw [HRES.out]
    exact ⟨_, rfl, Kd.S_nil _ _ _ _ _, below57 _ _ _ _ _ (GS.bel P.out.gs) (Nat.le_refl _)⟩
   | some er =>
    have t6 : (er == 0) = false := beq_eq_false_iff_ne.mpr (hne er rfl)
    have hres : r = (0, 0, 0, [], ⟨#[]⟩, er) := by rw [← hr, HR.out]; simp [w1Res, failP, hL]
    have HRES := Lib.hid hres
    clear hres hr hL
    go_wp2_with (first | (go_at_call 62; refine (cnt63 hsz P0.out).mono ?_; rintro e w23 ⟨rfl, v3, n_⟩; rw [HR.out] at n_; have P := Lib.hid n_; clear n_ P0; obtain ⟨A3, n3, c3, rfl⟩ : ∃ A n c, v3 = .slice A n c := (by obtain ⟨A, c, e⟩ := Kd.S_slice P.out.row; exact ⟨A, _, c, e⟩); have p0 := GS.c12 P.out.gs; obtain ⟨⟨x0, x1, x2, x3, x4⟩, u4⟩ := GS.c11 P.out.gs; obtain ⟨⟨z0, z1, z2, z3, z4⟩, y0, y1, y2, y3, y4⟩ := Z57.cells P.out.gs.1) | (go_at_call 54; refine (cursor_Cursor_Left.calls gc s1.f1 (atOf s1.f1 (L, some er)) (some er) (L.length : Int) s1.f1 (atOf s1.f1 (L, some er)) (some er) w _ (GS.is P.out.gs) (GS.bel P.out.gs) (left_cur hsz P.out.good)).mono ?_; rintro e w24 ⟨rfl, i_, b_, k_⟩; have n_ := Lib.hid (P.out.call P.out.good i_ b_ k_); clear P i_ b_ k_; have P := n_; clear n_; have p0 := GS.c12 P.out.gs; obtain ⟨⟨x0, x1, x2, x3, x4⟩, u4⟩ := GS.c11 P.out.gs; obtain ⟨⟨z0, z1, z2, z3, z4⟩, y0, y1, y2, y3, y4⟩ := Z57.cells P.out.gs.1) | (go_at_call 52; refine (cursor_Cursor_Fail.calls gc s1.f1 (atOf s1.f1 (L, some er)) (some er) 8 s1.f1 (atOf s1.f1 (L, some er)) (some er) w _ (GS.is P.out.gs) (GS.bel P.out.gs) (fail_cur 8 (by decide) (L, some er)).1).mono ?_; rintro e w25 ⟨rfl, i_, b_, k_⟩; have n_ := Lib.hid (P.out.call (P.out.good.fail (e := 8) (by decide)) i_ b_ k_); clear P i_ b_ k_; have P := n_; clear n_; have p0 := GS.c12 P.out.gs; obtain ⟨⟨x0, x1, x2, x3, x4⟩, u4⟩ := GS.c11 P.out.gs; obtain ⟨⟨z0, z1, z2, z3, z4⟩, y0, y1, y2, y3, y4⟩ := Z57.cells P.out.gs.1) | (go_at_call 53; refine (cursor_Cursor_Err.calls gc s1.f1 (atOf s1.f1 (L, some er)) (some er) (er) s1.f1 (atOf s1.f1 (L, some er)) (some er) w _ (GS.is P.out.gs) (GS.bel P.out.gs) rfl).mono ?_; rintro e w26 ⟨rfl, i_, b_, k_⟩; have n_ := Lib.hid (P.out.call P.out.good i_ b_ k_); clear P i_ b_ k_; have P := n_; clear n_; have p0 := GS.c12 P.out.gs; obtain ⟨⟨x0, x1, x2, x3, x4⟩, u4⟩ := GS.c11 P.out.gs; obtain ⟨⟨z0, z1, z2, z3, z4⟩, y0, y1, y2, y3, y4⟩ := Z57.cells P.out.gs.1))
    refine bodyPost_ret (results_ct rfl _ _ w.heap.size 57 #[.int .u32 0, .int .i64 0, .int .i64 0, .slice none 0 0, .string ⟨#[]⟩] (0, 0) _ rfl (set57 _ _ _ _ _ P.out.gs.1) Try.underlying57 rfl (by kernel_rfl)) rfl ?_
    rw [HRES.out]
    exact ⟨_, rfl, Kd.S_nil _ _ _ _ _, below57 _ _ _ _ _ (GS.bel P.out.gs) (Nat.le_refl _)⟩
  ·have t1 : decide (0 < L.length) = false := decide_eq_false hL
   have t1b : (0 < L.length) = False := eq_false hL
   cases er with
   | none =>
    have hres : r = (sum, len, way, ops, ⟨#[]⟩, 0) := by rw [← hr, HR.out]; simp [w1Res, failP, hL]
    have HRES := Lib.hid hres
    clear hres hr hL
    go_wp2_with (first | (go_at_call 62; refine (cnt63 hsz P0.out).mono ?_; rintro e w23 ⟨rfl, v3, n_⟩; rw [HR.out] at n_; have P := Lib.hid n_; clear n_ P0; obtain ⟨A3, n3, c3, rfl⟩ : ∃ A n c, v3 = .slice A n c := (by obtain ⟨A, c, e⟩ := Kd.S_slice P.out.row; exact ⟨A, _, c, e⟩); have p0 := GS.c12 P.out.gs; obtain ⟨⟨x0, x1, x2, x3, x4⟩, u4⟩ := GS.c11 P.out.gs; obtain ⟨⟨z0, z1, z2, z3, z4⟩, y0, y1, y2, y3, y4⟩ := Z57.cells P.out.gs.1) | (go_at_call 54; refine (cursor_Cursor_Left.calls gc s1.f1 (atOf s1.f1 (L, none)) (none) (L.length : Int) s1.f1 (atOf s1.f1 (L, none)) (none) w _ (GS.is P.out.gs) (GS.bel P.out.gs) (left_cur hsz P.out.good)).mono ?_; rintro e w24 ⟨rfl, i_, b_, k_⟩; have n_ := Lib.hid (P.out.call P.out.good i_ b_ k_); clear P i_ b_ k_; have P := n_; clear n_; have p0 := GS.c12 P.out.gs; obtain ⟨⟨x0, x1, x2, x3, x4⟩, u4⟩ := GS.c11 P.out.gs; obtain ⟨⟨z0, z1, z2, z3, z4⟩, y0, y1, y2, y3, y4⟩ := Z57.cells P.out.gs.1) | (go_at_call 53; refine (cursor_Cursor_Err.calls gc s1.f1 (atOf s1.f1 (L, none)) (none) (0) s1.f1 (atOf s1.f1 (L, none)) (none) w _ (GS.is P.out.gs) (GS.bel P.out.gs) rfl).mono ?_; rintro e w26 ⟨rfl, i_, b_, k_⟩; have n_ := Lib.hid (P.out.call P.out.good i_ b_ k_); clear P i_ b_ k_; have P := n_; clear n_; have p0 := GS.c12 P.out.gs; obtain ⟨⟨x0, x1, x2, x3, x4⟩, u4⟩ := GS.c11 P.out.gs; obtain ⟨⟨z0, z1, z2, z3, z4⟩, y0, y1, y2, y3, y4⟩ := Z57.cells P.out.gs.1))
    refine bodyPost_ret (results_ct rfl _ _ w.heap.size 57 #[.int .u32 sum, .int .i64 len, .int .i64 way, .slice A3 n3 c3, .string ⟨#[]⟩] (0, 0) _ rfl (set57 _ _ _ _ _ P.out.gs.1) Try.underlying57 rfl (by kernel_rfl)) rfl ?_
    rw [HRES.out]
    exact ⟨_, rfl, S_res57 _ _ _ _ _ P.out.row P.out.gs.1, below57 _ _ _ _ _ (GS.bel P.out.gs) (Nat.le_refl _)⟩
   | some er =>
    have t6 : (er == 0) = false := beq_eq_false_iff_ne.mpr (hne er rfl)
    have hres : r = (0, 0, 0, [], ⟨#[]⟩, er) := by rw [← hr, HR.out]; simp [w1Res, failP, hL]
    have HRES := Lib.hid hres
    clear hres hr hL
    go_wp2_with (first | (go_at_call 62; refine (cnt63 hsz P0.out).mono ?_; rintro e w23 ⟨rfl, v3, n_⟩; rw [HR.out] at n_; have P := Lib.hid n_; clear n_ P0; obtain ⟨A3, n3, c3, rfl⟩ : ∃ A n c, v3 = .slice A n c := (by obtain ⟨A, c, e⟩ := Kd.S_slice P.out.row; exact ⟨A, _, c, e⟩); have p0 := GS.c12 P.out.gs; obtain ⟨⟨x0, x1, x2, x3, x4⟩, u4⟩ := GS.c11 P.out.gs; obtain ⟨⟨z0, z1, z2, z3, z4⟩, y0, y1, y2, y3, y4⟩ := Z57.cells P.out.gs.1) | (go_at_call 54; refine (cursor_Cursor_Left.calls gc s1.f1 (atOf s1.f1 (L, some er)) (some er) (L.length : Int) s1.f1 (atOf s1.f1 (L, some er)) (some er) w _ (GS.is P.out.gs) (GS.bel P.out.gs) (left_cur hsz P.out.good)).mono ?_; rintro e w24 ⟨rfl, i_, b_, k_⟩; have n_ := Lib.hid (P.out.call P.out.good i_ b_ k_); clear P i_ b_ k_; have P := n_; clear n_; have p0 := GS.c12 P.out.gs; obtain ⟨⟨x0, x1, x2, x3, x4⟩, u4⟩ := GS.c11 P.out.gs; obtain ⟨⟨z0, z1, z2, z3, z4⟩, y0, y1, y2, y3, y4⟩ := Z57.cells P.out.gs.1) | (go_at_call 53; refine (cursor_Cursor_Err.calls gc s1.f1 (atOf s1.f1 (L, some er)) (some er) (er) s1.f1 (atOf s1.f1 (L, some er)) (some er) w _ (GS.is P.out.gs) (GS.bel P.out.gs) rfl).mono ?_; rintro e w26 ⟨rfl, i_, b_, k_⟩; have n_ := Lib.hid (P.out.call P.out.good i_ b_ k_); clear P i_ b_ k_; have P := n_; clear n_; have p0 := GS.c12 P.out.gs; obtain ⟨⟨x0, x1, x2, x3, x4⟩, u4⟩ := GS.c11 P.out.gs; obtain ⟨⟨z0, z1, z2, z3, z4⟩, y0, y1, y2, y3, y4⟩ := Z57.cells P.out.gs.1))
    refine bodyPost_ret (results_ct rfl _ _ w.heap.size 57 #[.int .u32 0, .int .i64 0, .int .i64 0, .slice none 0 0, .string ⟨#[]⟩] (0, 0) _ rfl (set57 _ _ _ _ _ P.out.gs.1) Try.underlying57 rfl (by kernel_rfl)) rfl ?_
    rw [HRES.out]
    exact ⟨_, rfl, Kd.S_nil _ _ _ _ _, below57 _ _ _ _ _ (GS.bel P.out.gs) (Nat.le_refl _)⟩
def zeroP (e : Int) : Int × Int × Int × List S107 × ByteArray × Int := (0, 0, 0, [], ⟨#[]⟩, e)
def patch_Get.body (sum len way : Int) (p : ByteArray) : Option (Int × Int × Int × List S107 × ByteArray × Int) :=
 if way = 1 then (if p.size ≤ 140737488355328 then some (w1Res sum len way (countP opP (bs p, none))) else none)
 else if way = 0 then (if 0 < wrap64 ((p.size : Int) - 0) then some (zeroP 8) else some (sum, len, way, [], ⟨#[]⟩, 0))
 else if way = 2 then match cursor_Cursor_Bytes.f p 0 none (wrap64 ((p.size : Int) - 0)) with
  | some (fb, cb, a, none) => if 0 < wrap64 ((cb.size : Int) - a) then none else some (sum, len, way, [], fb, 0)
  | _ => none
 else some (zeroP 1)
def patch_Get.f (k : Nat) (b : ByteArray) : Option (Int × Int × Int × List S107 × ByteArray × Int) :=
 (frame_Get.f k ⟨#[68, 73, 79, 80]⟩ b).bind fun r =>
  if r.2.2 ≠ 0 then some (zeroP r.2.2) else if r.1 ≠ 2 then some (zeroP 7) else match r.2.1 with
   | [s0, s1] => if s0.f0 ≠ 1 ∨ s1.f0 ≠ 2 ∨ s0.f1.size ≠ 9 then some (zeroP 4) else
     (crc_Get.f (s0.f1.extract 0 4)).bind fun s => (crc_Get.f (s0.f1.extract 4 8)).bind fun n => if 0 ≤ n.1 ∧ n.1 ≤ 4294967295 then patch_Get.body s.1 n.1 (bt s0.f1 8) s1.f1 else none
   | _ => some (zeroP 4)
theorem patch_Get.mono : ∀ a0 k, LeO (patch_Get.f k a0) (patch_Get.f (k + 1) a0) := by
 intro a0 k
 unfold patch_Get.f
 exact LeO.bind (frame_Get.mono _ _ _) (fun _ => LeO.refl _)
theorem get_out {w : World} {b : ByteArray} {r1 r2 r3 : Int} {r5 : ByteArray} {r6 : Int} (h : Calls Try.prog 39 #[.string b] w fun e_ w' => e_ = .returned (.tuple #[.agg #[.int .u32 r1, .int .i64 r2, .int .i64 r3, .slice none 0 0, .string r5], .int .i64 r6]) ∧ Below w.heap.size w w') :
  Calls Try.prog 39 #[.string b] w fun e w' => ∃ v_ : Value, e = .returned (.tuple #[.agg #[.int .u32 r1, .int .i64 r2, .int .i64 r3, v_, .string r5], .int .i64 r6]) ∧ Kd.S k107 107 w' w.heap.size (fun _ => True) v_ [] ∧ Below w.heap.size w w' :=
 h.mono fun e w' h2 => ⟨_, h2.1, Kd.S_nil _ _ _ _ _, h2.2⟩
theorem patch_Get.calls (k : Nat) (a0 : ByteArray) (r1 r2 r3 : Int) (r4 : List (S107)) (r5 : ByteArray) (r6 : Int) (w : World) (h : patch_Get.f k a0 = some (r1, r2, r3, r4, r5, r6)) :
  Calls Try.prog 39 #[.string a0] w fun e w' => ∃ v_ : Value, e = .returned (.tuple #[.agg #[.int .u32 r1, .int .i64 r2, .int .i64 r3, v_, .string r5], .int .i64 r6]) ∧ Kd.S k107 107 w' w.heap.size (fun _ => True) v_ r4 ∧ Below w.heap.size w w' := by
 unfold patch_Get.f at h
 obtain ⟨⟨v, l, e⟩, hg, h⟩ := Option.bind_eq_some_iff.mp h
 dsimp only at h
 by_cases he : e = 0
 ·rw [if_neg (fun h_ => h_ he)] at h
  by_cases hv : v = 2
  ·rw [if_neg (fun h_ => h_ hv)] at h
   subst he hv
   match l, hg, h with
   | [s0, s1], hg, h =>
    dsimp only at h
    by_cases h0 : s0.f0 = 1
    ·by_cases h1 : s1.f0 = 2
     ·by_cases h9 : s0.f1.size = 9
      ·rw [if_neg (by simp [h0, h1, h9])] at h
       obtain ⟨⟨sum, ok0⟩, hs, h⟩ := Option.bind_eq_some_iff.mp h
       obtain ⟨⟨len, ok1⟩, hn, h⟩ := Option.bind_eq_some_iff.mp h
       dsimp only at h
       by_cases hln : 0 ≤ len ∧ len ≤ 4294967295
       ·rw [if_pos hln] at h
        unfold patch_Get.body at h
        by_cases hw1 : bt s0.f1 8 = 1
        ·rw [if_pos hw1] at h
         by_cases hsz : s1.f1.size ≤ 140737488355328
         ·rw [if_pos hsz] at h
          exact get_w1 k a0 w s0 s1 hg h0 h1 h9 sum len ok0 ok1 hs hn hln _ rfl hw1 hsz _ (Option.some.inj h)
         ·rw [if_neg hsz] at h; cases h
        rw [if_neg hw1] at h
        by_cases hw : bt s0.f1 8 = 0
        ·rw [if_pos hw] at h
         by_cases hn0 : 0 < wrap64 ((s1.f1.size : Int) - 0)
         ·rw [if_pos hn0] at h
          cases h
          exact get_out (get_w0m k a0 w s0 s1 hg h0 h1 h9 sum len ok0 ok1 hs hn hln _ rfl hw _ rfl hn0)
         ·rw [if_neg hn0] at h
          cases h
          exact get_out (get_w0e k a0 w s0 s1 hg h0 h1 h9 _ _ ok0 ok1 hs hn hln _ rfl hw _ rfl hn0)
        ·rw [if_neg hw] at h
         by_cases hw2 : bt s0.f1 8 = 2
         ·rw [if_pos hw2] at h
          cases hb : cursor_Cursor_Bytes.f s1.f1 0 none (wrap64 ((s1.f1.size : Int) - 0)) with
          | none => rw [hb] at h; cases h
          | some q =>
           obtain ⟨fb, cb, a, er⟩ := q
           rw [hb] at h
           cases er with
           | some _ => cases h
           | none =>
            dsimp only at h
            by_cases hn2 : 0 < wrap64 ((cb.size : Int) - a)
            ·rw [if_pos hn2] at h; cases h
            ·rw [if_neg hn2] at h
             cases h
             exact get_out (get_w2 k a0 w s0 s1 hg h0 h1 h9 _ _ ok0 ok1 hs hn hln _ rfl hw2 _ rfl _ _ _ hb _ rfl hn2)
         ·rw [if_neg hw2] at h
          cases h
          by_cases hn0 : 0 < wrap64 ((s1.f1.size : Int) - 0)
          ·exact get_out (get_wxm k a0 w s0 s1 hg h0 h1 h9 sum len ok0 ok1 hs hn hln _ rfl hw hw1 hw2 _ rfl hn0)
          ·exact get_out (get_wxe k a0 w s0 s1 hg h0 h1 h9 sum len ok0 ok1 hs hn hln _ rfl hw hw1 hw2 _ rfl hn0)
       ·rw [if_neg hln] at h; cases h
      ·rw [if_pos (by simp [h9])] at h
       cases h
       exact get_out (get_size k a0 w _ _ _ hg rfl rfl s0 s1 rfl h0 h1 h9)
     ·rw [if_pos (by simp [h1])] at h
      cases h
      exact get_out (get_id1 k a0 w _ _ _ hg rfl rfl s0 s1 rfl h0 h1)
    ·rw [if_pos (by simp [h0])] at h
     cases h
     exact get_out (get_id0 k a0 w _ _ _ hg rfl rfl s0 s1 rfl h0)
   | [], hg, h => cases h; exact get_out (get_len k a0 w _ _ _ hg rfl rfl (by simp))
   | [_], hg, h => cases h; exact get_out (get_len k a0 w _ _ _ hg rfl rfl (by simp))
   | _ :: _ :: _ :: _, hg, h => cases h; exact get_out (get_len k a0 w _ _ _ hg rfl rfl (by simp))
  ·rw [if_pos hv] at h
   cases h
   exact get_out (get_ver k a0 w _ _ _ hg he hv)
 ·rw [if_pos he] at h
  cases h
  exact get_out (get_err k a0 w _ _ _ hg he)
end Go.Proofs.Ytdjpelcdijpihaa.PrintF
