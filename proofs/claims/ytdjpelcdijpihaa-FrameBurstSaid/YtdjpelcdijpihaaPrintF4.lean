-- Printed for this claim by the session's own driver (xprint.py) out of the translation; Lean checks it.
import Derived.Test.YtdjpelcdijpihaaPrintF0
import Derived.Test.YtdjpelcdijpihaaPrintF2
import Derived.Test.YtdjpelcdijpihaaPrintF3
import Derived.Test.YtdjpelcdijpihaaPrintC1
namespace Go.Proofs.Ytdjpelcdijpihaa.PrintF
open Go.Proofs.Ytdjpelcdijpihaa.Print
open Go.RowKit Go.Proofs.YtdjpelcdijpihaaW.PrintWords Go.Proofs.YtdjpelcdijpihaaW.PrintLast Go.Proofs.YtdjpelcdijpihaaW.PrintMore
attribute [local go_sem] max2_int min2_int max_two min_two max_three min_three max_four min_four   -- for this text's walks alone
set_option linter.unusedVariables false
set_option linter.unusedSimpArgs false

/-! ### frame_section: function 55 -/
mutual
def frame_section.j0 : Nat → Int → ByteArray → Int → Option Int → Option (Int × ByteArray × ByteArray × Int × Option Int)
  | 0, _, _, _, _ => none
  | k + 1, x3, x1000, x1001, x1002 => (cursor_Cursor_Uint.f k x1000 x1001 x1002 16777216).bind fun bt154 => ((cursor_Cursor_Err.f bt154.2.1 bt154.2.2.1 bt154.2.2.2).bind fun bt158 => (if bt158.1 = 0 then ((cursor_Cursor_Left.f bt158.2.1 bt158.2.2.1 bt158.2.2.2).bind fun bt162 => (frame_section.j1 k x3 bt154.1 (decide (bt162.1 < (wrap64 (bt154.1 + 4)))) bt162.2.1 bt162.2.2.1 bt162.2.2.2)) else (frame_section.j1 k x3 bt154.1 false bt158.2.1 bt158.2.2.1 bt158.2.2.2)))
def frame_section.j1 : Nat → Int → Int → Bool → ByteArray → Int → Option Int → Option (Int × ByteArray × ByteArray × Int × Option Int)
  | 0, _, _, _, _, _, _ => none
  | k + 1, x3, x4, x26, x1000, x1001, x1002 => if x26 = true then ((cursor_Cursor_Fail.f x1000 x1001 x1002 2).bind fun bt166 => (frame_section.j2 k x3 x4 bt166.1 bt166.2.1 bt166.2.2)) else (frame_section.j2 k x3 x4 x1000 x1001 x1002)
def frame_section.j2 : Nat → Int → Int → ByteArray → Int → Option Int → Option (Int × ByteArray × ByteArray × Int × Option Int)
  | 0, _, _, _, _, _ => none
  | k + 1, x3, x4, x1000, x1001, x1002 => (cursor_Cursor_Bytes.f x1000 x1001 x1002 x4).bind fun bt169 => ((cursor_Cursor_Bytes.f bt169.2.1 bt169.2.2.1 bt169.2.2.2 4).bind fun bt174 => ((crc_Get.f bt174.1).bind fun bt178 => (if bt178.2 = true then ((crc_Sum.f bt169.1).bind fun t180 => (if bt178.1 = t180 then (some (x3, bt169.1, bt174.2.1, bt174.2.2.1, bt174.2.2.2)) else ((cursor_Cursor_Fail.f bt174.2.1 bt174.2.2.1 bt174.2.2.2 5).bind fun bt181 => (some (x3, bt169.1, bt181.1, bt181.2.1, bt181.2.2))))) else ((cursor_Cursor_Fail.f bt174.2.1 bt174.2.2.1 bt174.2.2.2 5).bind fun bt184 => (some (x3, bt169.1, bt184.1, bt184.2.1, bt184.2.2))))))
end
def frame_section.f (k : Nat) (s0_0 : ByteArray) (s0_1 : Int) (s0_2 : Option Int) : Option (Int × ByteArray × ByteArray × Int × Option Int) := (cursor_Cursor_Byte.f s0_0 s0_1 s0_2).bind fun bt147 => (if (wrap64 (bt147.1)) = 0 then ((cursor_Cursor_Fail.f bt147.2.1 bt147.2.2.1 bt147.2.2.2 4).bind fun bt151 => (frame_section.j0 k (wrap64 (bt147.1)) bt151.1 bt151.2.1 bt151.2.2)) else (frame_section.j0 k (wrap64 (bt147.1)) bt147.2.1 bt147.2.2.1 bt147.2.2.2))
theorem frame_section.mono_l : ∀ k, (∀ y0 y1 y2 y3, LeO (frame_section.j0 k y0 y1 y2 y3) (frame_section.j0 (k + 1) y0 y1 y2 y3)) ∧ (∀ y0 y1 y2 y3 y4 y5, LeO (frame_section.j1 k y0 y1 y2 y3 y4 y5) (frame_section.j1 (k + 1) y0 y1 y2 y3 y4 y5)) ∧ (∀ y0 y1 y2 y3 y4, LeO (frame_section.j2 k y0 y1 y2 y3 y4) (frame_section.j2 (k + 1) y0 y1 y2 y3 y4))
  | 0 => ⟨fun _ _ _ _ r h => by simp [frame_section.j0] at h, fun _ _ _ _ _ _ r h => by simp [frame_section.j1] at h, fun _ _ _ _ _ r h => by simp [frame_section.j2] at h⟩
  | k + 1 => by
    obtain ⟨ih0, ih1, ih2⟩ := frame_section.mono_l k
    refine ⟨?_, ?_, ?_⟩
    · intro y0 y1 y2 y3
      unfold frame_section.j0
      repeat' first
      | (with_reducible exact ih0 _ _ _ _)
      | (with_reducible exact ih1 _ _ _ _ _ _)
      | (with_reducible exact ih2 _ _ _ _ _)
      | (with_reducible exact cursor_Cursor_Uint.mono _ _ _ _ _)
      | (with_reducible exact LeO.refl _)
      | (with_reducible exact LeO.none _)
      | (with_reducible refine LeO.ite ?_ ?_)
      | (with_reducible refine LeO.bind ?_ (fun _ => ?_))
      | exact ih0 _ _ _ _
      | exact ih1 _ _ _ _ _ _
      | exact ih2 _ _ _ _ _
      | exact cursor_Cursor_Uint.mono _ _ _ _ _
      | exact LeO.none _
      | refine LeO.ite ?_ ?_
      | refine LeO.bind ?_ (fun _ => ?_)
    · intro y0 y1 y2 y3 y4 y5
      unfold frame_section.j1
      repeat' first
      | (with_reducible exact ih0 _ _ _ _)
      | (with_reducible exact ih1 _ _ _ _ _ _)
      | (with_reducible exact ih2 _ _ _ _ _)
      | (with_reducible exact cursor_Cursor_Uint.mono _ _ _ _ _)
      | (with_reducible exact LeO.refl _)
      | (with_reducible exact LeO.none _)
      | (with_reducible refine LeO.ite ?_ ?_)
      | (with_reducible refine LeO.bind ?_ (fun _ => ?_))
      | exact ih0 _ _ _ _
      | exact ih1 _ _ _ _ _ _
      | exact ih2 _ _ _ _ _
      | exact cursor_Cursor_Uint.mono _ _ _ _ _
      | exact LeO.none _
      | refine LeO.ite ?_ ?_
      | refine LeO.bind ?_ (fun _ => ?_)
    · intro y0 y1 y2 y3 y4
      unfold frame_section.j2
      repeat' first
      | (with_reducible exact ih0 _ _ _ _)
      | (with_reducible exact ih1 _ _ _ _ _ _)
      | (with_reducible exact ih2 _ _ _ _ _)
      | (with_reducible exact cursor_Cursor_Uint.mono _ _ _ _ _)
      | (with_reducible exact LeO.refl _)
      | (with_reducible exact LeO.none _)
      | (with_reducible refine LeO.ite ?_ ?_)
      | (with_reducible refine LeO.bind ?_ (fun _ => ?_))
      | exact ih0 _ _ _ _
      | exact ih1 _ _ _ _ _ _
      | exact ih2 _ _ _ _ _
      | exact cursor_Cursor_Uint.mono _ _ _ _ _
      | exact LeO.none _
      | refine LeO.ite ?_ ?_
      | refine LeO.bind ?_ (fun _ => ?_)
theorem frame_section.mono : ∀ a0 a1 a2 k, LeO (frame_section.f k a0 a1 a2) (frame_section.f (k + 1) a0 a1 a2) := by
  intro a0 a1 a2 k
  obtain ⟨ih0, ih1, ih2⟩ := frame_section.mono_l k
  unfold frame_section.f
  repeat' first
      | (with_reducible exact ih0 _ _ _ _)
      | (with_reducible exact ih1 _ _ _ _ _ _)
      | (with_reducible exact ih2 _ _ _ _ _)
      | (with_reducible exact cursor_Cursor_Uint.mono _ _ _ _ _)
      | (with_reducible exact LeO.refl _)
      | (with_reducible exact LeO.none _)
      | (with_reducible refine LeO.ite ?_ ?_)
      | (with_reducible refine LeO.bind ?_ (fun _ => ?_))
      | exact ih0 _ _ _ _
      | exact ih1 _ _ _ _ _ _
      | exact ih2 _ _ _ _ _
      | exact cursor_Cursor_Uint.mono _ _ _ _ _
      | exact LeO.none _
      | refine LeO.ite ?_ ?_
      | refine LeO.bind ?_ (fun _ => ?_)
set_option maxHeartbeats 8000000 in
set_option maxRecDepth 100000 in
theorem frame_section.calls (k : Nat) (g : Nat) (s0_0 : ByteArray) (s0_1 : Int) (s0_2 : Option Int) (r1 : Int) (r2 : ByteArray) (r3 : ByteArray) (r4 : Int) (r5 : Option Int) (w0 w : World) (hI : IsS122 w0 w g s0_0 s0_1 s0_2) (hB : Below w0.heap.size w0 w) (h : frame_section.f k s0_0 s0_1 s0_2 = some (r1, r2, r3, r4, r5)) :
    Calls Try.prog 55 #[.pointer (some ⟨g, 0, none⟩)] w fun e w' => e = .returned (.agg #[.int .i64 r1, .string r2]) ∧ IsS122 w0 w' g r3 r4 r5 ∧ Below w0.heap.size w0 w' ∧ KeepBut w w' g none := by
  have hu52 := Try.underlying52
  have HI0 := Aside0.mk hI
  have HK := Aside0.mk (KeepBut.refl w g none)
  have HL := Aside0.mk hB.size
  clear hI
  have HW0 := Aside0.mk hB.size
  have HB := Aside0.mk hB
  clear hB
  have H : ((cursor_Cursor_Byte.f s0_0 s0_1 s0_2).bind fun bt147 => (if (wrap64 (bt147.1)) = 0 then ((cursor_Cursor_Fail.f bt147.2.1 bt147.2.2.1 bt147.2.2.2 4).bind fun bt151 => (frame_section.j0 k (wrap64 (bt147.1)) bt151.1 bt151.2.1 bt151.2.2)) else (frame_section.j0 k (wrap64 (bt147.1)) bt147.2.1 bt147.2.2.1 bt147.2.2.2))) = some (r1, r2, r3, r4, r5) := h
  clear h
  replace H := Option.bind_eq_some_iff.mp H
  obtain ⟨⟨t147, t148, t149, t150⟩, A20, H⟩ := H
  replace H : (if (wrap64 (t147)) = 0 then ((cursor_Cursor_Fail.f t148 t149 t150 4).bind fun bt151 => (frame_section.j0 k (wrap64 (t147)) bt151.1 bt151.2.1 bt151.2.2)) else (frame_section.j0 k (wrap64 (t147)) t148 t149 t150)) = some (r1, r2, r3, r4, r5) := H
  have A2 := Aside0.mk A20
  clear A20
  have HC3 := Aside0.mk H
  clear H
  go_enter Try.func55, Try.ntmps55
  go_upto_if 12 with (first | ((with_reducible refine gate_dst (N := 2) rfl ?_); refine box_event ?hg (N := 2) ?hd (cs := #[.int .i64 0, .string (⟨#[]⟩ : ByteArray)]) (t := 52) ?hr ?_; (case hd => rfl); (case hg => rfl); (case hr => first | (go_simp; done) | (go_simp; rfl)); intro gb146 hg w4 hbox hb; have n0_ := Aside0.mk (IsS122.below (by repeat (first | (with_reducible first | exact HI0.out | apply IsS122.alloc | apply IsS122.drewN | apply IsS122.drew | apply IsS122.set_0 | apply IsS122.set_1 | apply IsS122.set_2 | apply IsS122.setn_2 | apply IsS122.sets_2) | exact HI0.out)) hb); have n1_ := Aside0.mk (KeepBut.trans (by repeat (first | (with_reducible first | exact HK.out | apply KeepBut.set_ | apply keep_drewN | apply keep_drew | apply keep_alloc) | exact HK.out)) (KeepBut.of_below hb g none) (.inl rfl)); have n2_ := Aside0.mk (below_step (by repeat (first | (with_reducible first | exact HB.out | apply below_alloc | apply pw_below_drewN | apply below_drew1 | refine below_set ?_ (IsS122.ge HI0.out)) | exact HB.out)) hb); have n3_ := Aside0.mk (hbox); have n4_ := Aside0.mk ((by rw [hg]; exact (keep_size (w := w) (g := g) (row := none) (by repeat (first | (with_reducible first | exact HK.out | apply KeepBut.set_ | apply keep_drewN | apply keep_drew | apply keep_alloc) | exact HK.out))) : w.heap.size ≤ gb146)); have n5_ := Aside0.mk ((Nat.le_trans HW0.out (by rw [hg]; exact (keep_size (w := w) (g := g) (row := none) (by repeat (first | (with_reducible first | exact HK.out | apply KeepBut.set_ | apply keep_drewN | apply keep_drew | apply keep_alloc) | exact HK.out))) : w.heap.size ≤ gb146) : w0.heap.size ≤ gb146)); have n6_ := Aside0.mk ((by rw [hg]; exact Nat.ne_of_lt (IsS122.lt (show IsS122 w0 _ g s0_0 s0_1 s0_2 from by repeat (first | (with_reducible first | exact HI0.out | apply IsS122.alloc | apply IsS122.drewN | apply IsS122.drew | apply IsS122.set_0 | apply IsS122.set_1 | apply IsS122.set_2 | apply IsS122.setn_2 | apply IsS122.sets_2) | exact HI0.out))) : g ≠ gb146)); have n7_ := Aside0.mk ((by rw [hg]; exact Nat.ne_of_gt (IsS122.lt (show IsS122 w0 _ g s0_0 s0_1 s0_2 from by repeat (first | (with_reducible first | exact HI0.out | apply IsS122.alloc | apply IsS122.drewN | apply IsS122.drew | apply IsS122.set_0 | apply IsS122.set_1 | apply IsS122.set_2 | apply IsS122.setn_2 | apply IsS122.sets_2) | exact HI0.out))) : gb146 ≠ g)); clear HI0; clear HK; clear HB; have HI0 := n0_; have HK := n1_; have HB := n2_; have BK146 := n3_; have GW146 := n4_; have GE146 := n5_; have NB0_146 := n6_; have NB146_0 := n7_; clear n0_ n1_ n2_ n3_ n4_ n5_ n6_ n7_; clear hb hbox hg) | ((with_reducible refine gate_callee (f := 51) rfl ?_); refine goesL_ (some 9) rfl rfl Try.func51 (by kernel_rfl) rfl #[.pointer (some ⟨g, 0, none⟩)] rfl (by (try simp only [List.map_toArray, List.map_cons, List.map_nil]); first | done | rfl | (simp only [List.length_drop, List.length_take]; rfl)) ?_; (with_reducible refine (cursor_Cursor_Byte.calls g s0_0 s0_1 s0_2 t147 t148 t149 t150 w0 _ ?side1 ?side2 A2.out).mono ?_); (case side1 => repeat (first | (with_reducible first | exact HI0.out | apply IsS122.alloc | apply IsS122.drewN | apply IsS122.drew | apply IsS122.set_0 | apply IsS122.set_1 | apply IsS122.set_2 | apply IsS122.setn_2 | apply IsS122.sets_2 | refine IsS122.far ?_ NB0_146.out _) | exact HI0.out)); (case side2 => repeat (first | (with_reducible first | exact HB.out | apply below_alloc | apply pw_below_drewN | apply below_drew1 | refine below_set ?_ (IsS122.ge HI0.out) | refine below_set ?_ GE146.out) | exact HB.out)); rintro e w5 ⟨rfl, hi, hb, hk⟩; refine ⟨_, rfl, ?_⟩; have n0_ := Aside0.mk (KeepBut.blk hk (g' := gb146) (o := .cells #[.int .i64 0, .string (⟨#[]⟩ : ByteArray)] 52 (0, 0)) (by (with_reducible repeat (first | refine blk_drewN ?_ _ | refine blk_drew ?_ | refine blk_alloc ?_ _)); exact BK146.out) NB146_0.out (by simp)); have n1_ := Aside0.mk (KeepBut.trans (by repeat (first | (with_reducible first | exact HK.out | apply KeepBut.set_ | apply keep_drewN | apply keep_drew | apply keep_alloc | refine keep_far ?_ GW146.out _) | exact HK.out)) hk (.inl rfl)); have n2_ := Aside0.mk (hb); have n3_ := Aside0.mk (hi); clear BK146; clear HK; clear HB; clear HI0; have BK146 := n0_; have HK := n1_; have HB := n2_; have HI0 := n3_; clear n0_ n1_ n2_ n3_; (try clear hb); (try clear hb2); (try clear hk); (try clear hi); (try simp only [errW_none, errW_some])))
  (try simp only [Act.put, List.setIfInBounds_toArray, List.set_cons_zero, List.set_cons_succ])
  go_cut [] (fun wc => ∃ (kq : Nat) (x1000_2 : ByteArray) (x1001_2 : Int) (x1002_2 : Option Int), Aside0 (frame_section.j0 kq (wrap64 (t147)) x1000_2 x1001_2 x1002_2 = some (r1, r2, r3, r4, r5)) ∧ Aside0 (kq ≤ k) ∧ Aside0 (wc.heap[gb146]? = some (.cells #[.int .i64 0, .string (⟨#[]⟩ : ByteArray)] 52 (0, 0))) ∧ Aside0 (IsS122 w0 wc g x1000_2 x1001_2 x1002_2) ∧ Aside0 (KeepBut w wc g none) ∧ Aside0 (Below w0.heap.size w0 wc))
  case first =>
    have H := HC3.out
    clear HC3
    by_cases c6 : (wrap64 (t147)) = 0
    · rw [if_pos c6] at H
      have c6b0 : ((wrap64 (t147)) == 0) = true := beq_iff_eq.mpr c6
      have c6b1 : ((wrap64 (t147)) != 0) = false := bne_eq_false_iff_eq.mpr c6
      clear c6
      (first | rw [c6b0] | (simp only [i64_w, i32_w]; rw [c6b0]) | skip)
      replace H := Option.bind_eq_some_iff.mp H
      obtain ⟨⟨t151, t152, t153⟩, A70, H⟩ := H
      replace H : (frame_section.j0 k (wrap64 (t147)) t151 t152 t153) = some (r1, r2, r3, r4, r5) := H
      have A7 := Aside0.mk A70
      clear A70
      have H' := Aside0.mk H
      clear H
      go_wp2_with (first | ((with_reducible refine gate_callee (f := 52) rfl ?_); refine goesL_ (some 14) rfl rfl Try.func52 (by kernel_rfl) rfl #[.pointer (some ⟨g, 0, none⟩), .int .i64 4] rfl (by (try simp only [List.map_toArray, List.map_cons, List.map_nil]); first | done | rfl | (simp only [List.length_drop, List.length_take]; rfl)) ?_; (with_reducible refine (cursor_Cursor_Fail.calls g t148 t149 t150 4 t151 t152 t153 w0 _ ?side1 ?side2 A7.out).mono ?_); (case side1 => repeat (first | (with_reducible first | exact HI0.out | apply IsS122.alloc | apply IsS122.drewN | apply IsS122.drew | apply IsS122.set_0 | apply IsS122.set_1 | apply IsS122.set_2 | apply IsS122.setn_2 | apply IsS122.sets_2 | refine IsS122.far ?_ NB0_146.out _) | exact HI0.out)); (case side2 => repeat (first | (with_reducible first | exact HB.out | apply below_alloc | apply pw_below_drewN | apply below_drew1 | refine below_set ?_ (IsS122.ge HI0.out) | refine below_set ?_ GE146.out) | exact HB.out)); rintro e w8 ⟨rfl, hi, hb, hk⟩; refine ⟨_, rfl, ?_⟩; have n0_ := Aside0.mk (KeepBut.blk hk (g' := gb146) (o := .cells #[.int .i64 0, .string (⟨#[]⟩ : ByteArray)] 52 (0, 0)) (by (with_reducible repeat (first | refine blk_drewN ?_ _ | refine blk_drew ?_ | refine blk_alloc ?_ _)); exact BK146.out) NB146_0.out (by simp)); have n1_ := Aside0.mk (KeepBut.trans (by repeat (first | (with_reducible first | exact HK.out | apply KeepBut.set_ | apply keep_drewN | apply keep_drew | apply keep_alloc | refine keep_far ?_ GW146.out _) | exact HK.out)) hk (.inl rfl)); have n2_ := Aside0.mk (hb); have n3_ := Aside0.mk (hi); clear BK146; clear HK; clear HB; clear HI0; have BK146 := n0_; have HK := n1_; have HB := n2_; have HI0 := n3_; clear n0_ n1_ n2_ n3_; (try clear hb); (try clear hb2); (try clear hk); (try clear hi); (try simp only [errW_none, errW_some])))
      go_meet
      case rel => exact ⟨_, (t151), (t152), (t153), H', ⟨by first | omega | exact Nat.le_refl _⟩, ⟨by (with_reducible repeat (first | refine blk_drewN ?_ _ | refine blk_drew ?_ | refine blk_alloc ?_ _)); exact BK146.out⟩, ⟨by repeat (first | (with_reducible first | exact HI0.out | apply IsS122.alloc | apply IsS122.drewN | apply IsS122.drew | apply IsS122.set_0 | apply IsS122.set_1 | apply IsS122.set_2 | apply IsS122.setn_2 | apply IsS122.sets_2 | refine IsS122.far ?_ NB0_146.out _) | exact HI0.out)⟩, ⟨by repeat (first | (with_reducible first | exact HK.out | apply KeepBut.set_ | apply keep_drewN | apply keep_drew | apply keep_alloc | refine keep_far ?_ GW146.out _) | exact HK.out)⟩, ⟨by repeat (first | (with_reducible first | exact HB.out | apply below_alloc | apply pw_below_drewN | apply below_drew1 | refine below_set ?_ (IsS122.ge HI0.out) | refine below_set ?_ GE146.out) | exact HB.out)⟩⟩
    · rw [if_neg c6] at H
      have c6b0 : ((wrap64 (t147)) == 0) = false := beq_eq_false_iff_ne.mpr c6
      have c6b1 : ((wrap64 (t147)) != 0) = true := bne_iff_ne.mpr c6
      (first | rw [c6b0] | (simp only [i64_w, i32_w]; rw [c6b0]) | skip)
      have H' := Aside0.mk H
      clear H
      go_wp2
      go_meet
      case rel => exact ⟨_, (t148), (t149), (t150), H', ⟨by first | omega | exact Nat.le_refl _⟩, ⟨by (with_reducible repeat (first | refine blk_drewN ?_ _ | refine blk_drew ?_ | refine blk_alloc ?_ _)); exact BK146.out⟩, ⟨by repeat (first | (with_reducible first | exact HI0.out | apply IsS122.alloc | apply IsS122.drewN | apply IsS122.drew | apply IsS122.set_0 | apply IsS122.set_1 | apply IsS122.set_2 | apply IsS122.setn_2 | apply IsS122.sets_2 | refine IsS122.far ?_ NB0_146.out _) | exact HI0.out)⟩, ⟨by repeat (first | (with_reducible first | exact HK.out | apply KeepBut.set_ | apply keep_drewN | apply keep_drew | apply keep_alloc | refine keep_far ?_ GW146.out _) | exact HK.out)⟩, ⟨by repeat (first | (with_reducible first | exact HB.out | apply below_alloc | apply pw_below_drewN | apply below_drew1 | refine below_set ?_ (IsS122.ge HI0.out) | refine below_set ?_ GE146.out) | exact HB.out)⟩⟩
  case rest =>
    clear HC3
    try clear p2
    try clear c5
    try clear c6
    try clear c6b0
    try clear c6b1
    try clear p6
    obtain ⟨kq, x1000_2, x1001_2, x1002_2, HA, HJ2, BK146, HI0, HK, HB⟩ := hcut
    cases kq with
    | zero => exact absurd HA.out (by simp [frame_section.j0])
    | succ kj2 =>
      have H := HA.out
      clear HA
      simp only [frame_section.j0] at H
      replace H := Option.bind_eq_some_iff.mp H
      obtain ⟨⟨t154, t155, t156, t157⟩, A90, H⟩ := H
      replace H : ((cursor_Cursor_Err.f t155 t156 t157).bind fun bt158 => (if bt158.1 = 0 then ((cursor_Cursor_Left.f bt158.2.1 bt158.2.2.1 bt158.2.2.2).bind fun bt162 => (frame_section.j1 kj2 (wrap64 (t147)) t154 (decide (bt162.1 < (wrap64 (t154 + 4)))) bt162.2.1 bt162.2.2.1 bt162.2.2.2)) else (frame_section.j1 kj2 (wrap64 (t147)) t154 false bt158.2.1 bt158.2.2.1 bt158.2.2.2))) = some (r1, r2, r3, r4, r5) := H
      have A9 := Aside0.mk A90
      clear A90
      have HC10 := Aside0.mk H
      clear H
      go_upto_region 5 with (first | ((with_reducible refine gate_callee (f := 73) rfl ?_); refine goesL_ (some 16) rfl rfl Try.func73 (by kernel_rfl) rfl #[.pointer (some ⟨g, 0, none⟩), .int .u64 16777216] rfl (by (try simp only [List.map_toArray, List.map_cons, List.map_nil]); first | done | rfl | (simp only [List.length_drop, List.length_take]; rfl)) ?_; (with_reducible refine (cursor_Cursor_Uint.calls kj2 g x1000_2 x1001_2 x1002_2 16777216 t154 t155 t156 t157 w0 _ ?side1 ?side2 A9.out).mono ?_); (case side1 => repeat (first | (with_reducible first | exact HI0.out | apply IsS122.alloc | apply IsS122.drewN | apply IsS122.drew | apply IsS122.set_0 | apply IsS122.set_1 | apply IsS122.set_2 | apply IsS122.setn_2 | apply IsS122.sets_2 | refine IsS122.far ?_ NB0_146.out _) | exact HI0.out)); (case side2 => repeat (first | (with_reducible first | exact HB.out | apply below_alloc | apply pw_below_drewN | apply below_drew1 | refine below_set ?_ (IsS122.ge HI0.out) | refine below_set ?_ GE146.out) | exact HB.out)); rintro e w11 ⟨rfl, hi, hb, hk⟩; refine ⟨_, rfl, ?_⟩; have n0_ := Aside0.mk (KeepBut.blk hk (g' := gb146) (o := .cells #[.int .i64 0, .string (⟨#[]⟩ : ByteArray)] 52 (0, 0)) (by (with_reducible repeat (first | refine blk_drewN ?_ _ | refine blk_drew ?_ | refine blk_alloc ?_ _)); exact BK146.out) NB146_0.out (by simp)); have n1_ := Aside0.mk (KeepBut.trans (by repeat (first | (with_reducible first | exact HK.out | apply KeepBut.set_ | apply keep_drewN | apply keep_drew | apply keep_alloc | refine keep_far ?_ GW146.out _) | exact HK.out)) hk (.inl rfl)); have n2_ := Aside0.mk (hb); have n3_ := Aside0.mk (hi); clear BK146; clear HK; clear HB; clear HI0; have BK146 := n0_; have HK := n1_; have HB := n2_; have HI0 := n3_; clear n0_ n1_ n2_ n3_; (try clear hb); (try clear hb2); (try clear hk); (try clear hi); (try simp only [errW_none, errW_some])))
      (try simp only [Act.put, List.setIfInBounds_toArray, List.set_cons_zero, List.set_cons_succ])
      go_cut [26] (fun v26 wc => ∃ (kq : Nat) (x26_9 : Bool) (x1000_9 : ByteArray) (x1001_9 : Int) (x1002_9 : Option Int), v26 = .bool x26_9 ∧ Aside0 (frame_section.j1 kq (wrap64 (t147)) t154 x26_9 x1000_9 x1001_9 x1002_9 = some (r1, r2, r3, r4, r5)) ∧ Aside0 (kq ≤ kj2) ∧ Aside0 (wc.heap[gb146]? = some (.cells #[.int .i64 0, .string (⟨#[]⟩ : ByteArray)] 52 (0, 0))) ∧ Aside0 (IsS122 w0 wc g x1000_9 x1001_9 x1002_9) ∧ Aside0 (KeepBut w wc g none) ∧ Aside0 (Below w0.heap.size w0 wc))
      case first =>
        have H := HC10.out
        clear HC10
        replace H := Option.bind_eq_some_iff.mp H
        obtain ⟨⟨t158, t159, t160, t161⟩, A120, H⟩ := H
        replace H : (if t158 = 0 then ((cursor_Cursor_Left.f t159 t160 t161).bind fun bt162 => (frame_section.j1 kj2 (wrap64 (t147)) t154 (decide (bt162.1 < (wrap64 (t154 + 4)))) bt162.2.1 bt162.2.2.1 bt162.2.2.2)) else (frame_section.j1 kj2 (wrap64 (t147)) t154 false t159 t160 t161)) = some (r1, r2, r3, r4, r5) := H
        have A12 := Aside0.mk A120
        clear A120
        by_cases c13 : t158 = 0
        · rw [if_pos c13] at H
          have c13b0 : (t158 == 0) = true := beq_iff_eq.mpr c13
          have c13b1 : (t158 != 0) = false := bne_eq_false_iff_eq.mpr c13
          clear c13
          (first | rw [c13b0] | (simp only [i64_w, i32_w]; rw [c13b0]) | skip)
          replace H := Option.bind_eq_some_iff.mp H
          obtain ⟨⟨t162, t163, t164, t165⟩, A140, H⟩ := H
          replace H : (frame_section.j1 kj2 (wrap64 (t147)) t154 (decide (t162 < (wrap64 (t154 + 4)))) t163 t164 t165) = some (r1, r2, r3, r4, r5) := H
          have A14 := Aside0.mk A140
          clear A140
          have H' := Aside0.mk H
          clear H
          go_wp2_with (first | ((with_reducible refine gate_callee (f := 53) rfl ?_); refine goesL_ (some 18) rfl rfl Try.func53 (by kernel_rfl) rfl #[.pointer (some ⟨g, 0, none⟩)] rfl (by (try simp only [List.map_toArray, List.map_cons, List.map_nil]); first | done | rfl | (simp only [List.length_drop, List.length_take]; rfl)) ?_; (with_reducible refine (cursor_Cursor_Err.calls g t155 t156 t157 t158 t159 t160 t161 w0 _ ?side1 ?side2 A12.out).mono ?_); (case side1 => repeat (first | (with_reducible first | exact HI0.out | apply IsS122.alloc | apply IsS122.drewN | apply IsS122.drew | apply IsS122.set_0 | apply IsS122.set_1 | apply IsS122.set_2 | apply IsS122.setn_2 | apply IsS122.sets_2 | refine IsS122.far ?_ NB0_146.out _) | exact HI0.out)); (case side2 => repeat (first | (with_reducible first | exact HB.out | apply below_alloc | apply pw_below_drewN | apply below_drew1 | refine below_set ?_ (IsS122.ge HI0.out) | refine below_set ?_ GE146.out) | exact HB.out)); rintro e w15 ⟨rfl, hi, hb, hk⟩; refine ⟨_, rfl, ?_⟩; have n0_ := Aside0.mk (KeepBut.blk hk (g' := gb146) (o := .cells #[.int .i64 0, .string (⟨#[]⟩ : ByteArray)] 52 (0, 0)) (by (with_reducible repeat (first | refine blk_drewN ?_ _ | refine blk_drew ?_ | refine blk_alloc ?_ _)); exact BK146.out) NB146_0.out (by simp)); have n1_ := Aside0.mk (KeepBut.trans (by repeat (first | (with_reducible first | exact HK.out | apply KeepBut.set_ | apply keep_drewN | apply keep_drew | apply keep_alloc | refine keep_far ?_ GW146.out _) | exact HK.out)) hk (.inl rfl)); have n2_ := Aside0.mk (hb); have n3_ := Aside0.mk (hi); clear BK146; clear HK; clear HB; clear HI0; have BK146 := n0_; have HK := n1_; have HB := n2_; have HI0 := n3_; clear n0_ n1_ n2_ n3_; (try clear hb); (try clear hb2); (try clear hk); (try clear hi); (try simp only [errW_none, errW_some])) | (go_at_call 54; (with_reducible refine (cursor_Cursor_Left.calls g t159 t160 t161 t162 t163 t164 t165 w0 _ ?side1 ?side2 A14.out).mono ?_); (case side1 => repeat (first | (with_reducible first | exact HI0.out | apply IsS122.alloc | apply IsS122.drewN | apply IsS122.drew | apply IsS122.set_0 | apply IsS122.set_1 | apply IsS122.set_2 | apply IsS122.setn_2 | apply IsS122.sets_2 | refine IsS122.far ?_ NB0_146.out _) | exact HI0.out)); (case side2 => repeat (first | (with_reducible first | exact HB.out | apply below_alloc | apply pw_below_drewN | apply below_drew1 | refine below_set ?_ (IsS122.ge HI0.out) | refine below_set ?_ GE146.out) | exact HB.out)); rintro e w16 ⟨rfl, hi, hb, hk⟩; have n0_ := Aside0.mk (KeepBut.blk hk (g' := gb146) (o := .cells #[.int .i64 0, .string (⟨#[]⟩ : ByteArray)] 52 (0, 0)) (by (with_reducible repeat (first | refine blk_drewN ?_ _ | refine blk_drew ?_ | refine blk_alloc ?_ _)); exact BK146.out) NB146_0.out (by simp)); have n1_ := Aside0.mk (KeepBut.trans (by repeat (first | (with_reducible first | exact HK.out | apply KeepBut.set_ | apply keep_drewN | apply keep_drew | apply keep_alloc | refine keep_far ?_ GW146.out _) | exact HK.out)) hk (.inl rfl)); have n2_ := Aside0.mk (hb); have n3_ := Aside0.mk (hi); clear BK146; clear HK; clear HB; clear HI0; have BK146 := n0_; have HK := n1_; have HB := n2_; have HI0 := n3_; clear n0_ n1_ n2_ n3_; (try clear hb); (try clear hb2); (try clear hk); (try clear hi); (try simp only [errW_none, errW_some])))
          go_meet
          case rel => exact ⟨_, (decide (t162 < (wrap64 (t154 + 4)))), (t163), (t164), (t165), (by first | rfl | (simp; done) | (simp [*]; done)), H', ⟨by have := HJ2.out; first | omega | exact Nat.le_refl _⟩, ⟨by (with_reducible repeat (first | refine blk_drewN ?_ _ | refine blk_drew ?_ | refine blk_alloc ?_ _)); exact BK146.out⟩, ⟨by repeat (first | (with_reducible first | exact HI0.out | apply IsS122.alloc | apply IsS122.drewN | apply IsS122.drew | apply IsS122.set_0 | apply IsS122.set_1 | apply IsS122.set_2 | apply IsS122.setn_2 | apply IsS122.sets_2 | refine IsS122.far ?_ NB0_146.out _) | exact HI0.out)⟩, ⟨by repeat (first | (with_reducible first | exact HK.out | apply KeepBut.set_ | apply keep_drewN | apply keep_drew | apply keep_alloc | refine keep_far ?_ GW146.out _) | exact HK.out)⟩, ⟨by repeat (first | (with_reducible first | exact HB.out | apply below_alloc | apply pw_below_drewN | apply below_drew1 | refine below_set ?_ (IsS122.ge HI0.out) | refine below_set ?_ GE146.out) | exact HB.out)⟩⟩
        · rw [if_neg c13] at H
          have c13b0 : (t158 == 0) = false := beq_eq_false_iff_ne.mpr c13
          have c13b1 : (t158 != 0) = true := bne_iff_ne.mpr c13
          (first | rw [c13b0] | (simp only [i64_w, i32_w]; rw [c13b0]) | skip)
          have H' := Aside0.mk H
          clear H
          go_wp2_with (first | ((with_reducible refine gate_callee (f := 53) rfl ?_); refine goesL_ (some 18) rfl rfl Try.func53 (by kernel_rfl) rfl #[.pointer (some ⟨g, 0, none⟩)] rfl (by (try simp only [List.map_toArray, List.map_cons, List.map_nil]); first | done | rfl | (simp only [List.length_drop, List.length_take]; rfl)) ?_; (with_reducible refine (cursor_Cursor_Err.calls g t155 t156 t157 t158 t159 t160 t161 w0 _ ?side1 ?side2 A12.out).mono ?_); (case side1 => repeat (first | (with_reducible first | exact HI0.out | apply IsS122.alloc | apply IsS122.drewN | apply IsS122.drew | apply IsS122.set_0 | apply IsS122.set_1 | apply IsS122.set_2 | apply IsS122.setn_2 | apply IsS122.sets_2 | refine IsS122.far ?_ NB0_146.out _) | exact HI0.out)); (case side2 => repeat (first | (with_reducible first | exact HB.out | apply below_alloc | apply pw_below_drewN | apply below_drew1 | refine below_set ?_ (IsS122.ge HI0.out) | refine below_set ?_ GE146.out) | exact HB.out)); rintro e w17 ⟨rfl, hi, hb, hk⟩; refine ⟨_, rfl, ?_⟩; have n0_ := Aside0.mk (KeepBut.blk hk (g' := gb146) (o := .cells #[.int .i64 0, .string (⟨#[]⟩ : ByteArray)] 52 (0, 0)) (by (with_reducible repeat (first | refine blk_drewN ?_ _ | refine blk_drew ?_ | refine blk_alloc ?_ _)); exact BK146.out) NB146_0.out (by simp)); have n1_ := Aside0.mk (KeepBut.trans (by repeat (first | (with_reducible first | exact HK.out | apply KeepBut.set_ | apply keep_drewN | apply keep_drew | apply keep_alloc | refine keep_far ?_ GW146.out _) | exact HK.out)) hk (.inl rfl)); have n2_ := Aside0.mk (hb); have n3_ := Aside0.mk (hi); clear BK146; clear HK; clear HB; clear HI0; have BK146 := n0_; have HK := n1_; have HB := n2_; have HI0 := n3_; clear n0_ n1_ n2_ n3_; (try clear hb); (try clear hb2); (try clear hk); (try clear hi); (try simp only [errW_none, errW_some])))
          go_meet
          case rel => exact ⟨_, (false), (t159), (t160), (t161), (by first | rfl | (simp; done) | (simp [*]; done)), H', ⟨by have := HJ2.out; first | omega | exact Nat.le_refl _⟩, ⟨by (with_reducible repeat (first | refine blk_drewN ?_ _ | refine blk_drew ?_ | refine blk_alloc ?_ _)); exact BK146.out⟩, ⟨by repeat (first | (with_reducible first | exact HI0.out | apply IsS122.alloc | apply IsS122.drewN | apply IsS122.drew | apply IsS122.set_0 | apply IsS122.set_1 | apply IsS122.set_2 | apply IsS122.setn_2 | apply IsS122.sets_2 | refine IsS122.far ?_ NB0_146.out _) | exact HI0.out)⟩, ⟨by repeat (first | (with_reducible first | exact HK.out | apply KeepBut.set_ | apply keep_drewN | apply keep_drew | apply keep_alloc | refine keep_far ?_ GW146.out _) | exact HK.out)⟩, ⟨by repeat (first | (with_reducible first | exact HB.out | apply below_alloc | apply pw_below_drewN | apply below_drew1 | refine below_set ?_ (IsS122.ge HI0.out) | refine below_set ?_ GE146.out) | exact HB.out)⟩⟩
      case rest =>
        clear HC10
        try clear c1
        try clear p2
        try clear c5
        try clear c6
        try clear c6b0
        try clear c6b1
        try clear p6
        try clear c7
        try clear c13
        try clear c13b0
        try clear c13b1
        try clear p2
        try clear p6
        obtain ⟨kq, x26_9, x1000_9, x1001_9, x1002_9, rfl, HA, HJ9, BK146, HI0, HK, HB⟩ := hcut
        cases kq with
        | zero => exact absurd HA.out (by simp [frame_section.j1])
        | succ kj9 =>
          have H := HA.out
          clear HA
          simp only [frame_section.j1] at H
          have HC18 := Aside0.mk H
          clear H
          go_upto_if 26 with (fail)
          go_cut [] (fun wc => ∃ (kq : Nat) (x1000_17 : ByteArray) (x1001_17 : Int) (x1002_17 : Option Int), Aside0 (frame_section.j2 kq (wrap64 (t147)) t154 x1000_17 x1001_17 x1002_17 = some (r1, r2, r3, r4, r5)) ∧ Aside0 (kq ≤ kj9) ∧ Aside0 (wc.heap[gb146]? = some (.cells #[.int .i64 0, .string (⟨#[]⟩ : ByteArray)] 52 (0, 0))) ∧ Aside0 (IsS122 w0 wc g x1000_17 x1001_17 x1002_17) ∧ Aside0 (KeepBut w wc g none) ∧ Aside0 (Below w0.heap.size w0 wc))
          case first =>
            have H := HC18.out
            clear HC18
            by_cases c19 : x26_9 = true
            · subst c19
              have H1 : ((cursor_Cursor_Fail.f x1000_9 x1001_9 x1002_9 2).bind fun bt166 => (frame_section.j2 kj9 (wrap64 (t147)) t154 bt166.1 bt166.2.1 bt166.2.2)) = some (r1, r2, r3, r4, r5) := by rw [if_pos rfl] at H; exact H
              clear H
              have H := H1
              clear H1
              replace H := Option.bind_eq_some_iff.mp H
              obtain ⟨⟨t166, t167, t168⟩, A200, H⟩ := H
              replace H : (frame_section.j2 kj9 (wrap64 (t147)) t154 t166 t167 t168) = some (r1, r2, r3, r4, r5) := H
              have A20 := Aside0.mk A200
              clear A200
              have H' := Aside0.mk H
              clear H
              go_wp2_with (first | ((with_reducible refine gate_callee (f := 52) rfl ?_); refine goesL_ (some 28) rfl rfl Try.func52 (by kernel_rfl) rfl #[.pointer (some ⟨g, 0, none⟩), .int .i64 2] rfl (by (try simp only [List.map_toArray, List.map_cons, List.map_nil]); first | done | rfl | (simp only [List.length_drop, List.length_take]; rfl)) ?_; (with_reducible refine (cursor_Cursor_Fail.calls g x1000_9 x1001_9 x1002_9 2 t166 t167 t168 w0 _ ?side1 ?side2 A20.out).mono ?_); (case side1 => repeat (first | (with_reducible first | exact HI0.out | apply IsS122.alloc | apply IsS122.drewN | apply IsS122.drew | apply IsS122.set_0 | apply IsS122.set_1 | apply IsS122.set_2 | apply IsS122.setn_2 | apply IsS122.sets_2 | refine IsS122.far ?_ NB0_146.out _) | exact HI0.out)); (case side2 => repeat (first | (with_reducible first | exact HB.out | apply below_alloc | apply pw_below_drewN | apply below_drew1 | refine below_set ?_ (IsS122.ge HI0.out) | refine below_set ?_ GE146.out) | exact HB.out)); rintro e w21 ⟨rfl, hi, hb, hk⟩; refine ⟨_, rfl, ?_⟩; have n0_ := Aside0.mk (KeepBut.blk hk (g' := gb146) (o := .cells #[.int .i64 0, .string (⟨#[]⟩ : ByteArray)] 52 (0, 0)) (by (with_reducible repeat (first | refine blk_drewN ?_ _ | refine blk_drew ?_ | refine blk_alloc ?_ _)); exact BK146.out) NB146_0.out (by simp)); have n1_ := Aside0.mk (KeepBut.trans (by repeat (first | (with_reducible first | exact HK.out | apply KeepBut.set_ | apply keep_drewN | apply keep_drew | apply keep_alloc | refine keep_far ?_ GW146.out _) | exact HK.out)) hk (.inl rfl)); have n2_ := Aside0.mk (hb); have n3_ := Aside0.mk (hi); clear BK146; clear HK; clear HB; clear HI0; have BK146 := n0_; have HK := n1_; have HB := n2_; have HI0 := n3_; clear n0_ n1_ n2_ n3_; (try clear hb); (try clear hb2); (try clear hk); (try clear hi); (try simp only [errW_none, errW_some])))
              go_meet
              case rel => exact ⟨_, (t166), (t167), (t168), H', ⟨by have := HJ2.out; have := HJ9.out; first | omega | exact Nat.le_refl _⟩, ⟨by (with_reducible repeat (first | refine blk_drewN ?_ _ | refine blk_drew ?_ | refine blk_alloc ?_ _)); exact BK146.out⟩, ⟨by repeat (first | (with_reducible first | exact HI0.out | apply IsS122.alloc | apply IsS122.drewN | apply IsS122.drew | apply IsS122.set_0 | apply IsS122.set_1 | apply IsS122.set_2 | apply IsS122.setn_2 | apply IsS122.sets_2 | refine IsS122.far ?_ NB0_146.out _) | exact HI0.out)⟩, ⟨by repeat (first | (with_reducible first | exact HK.out | apply KeepBut.set_ | apply keep_drewN | apply keep_drew | apply keep_alloc | refine keep_far ?_ GW146.out _) | exact HK.out)⟩, ⟨by repeat (first | (with_reducible first | exact HB.out | apply below_alloc | apply pw_below_drewN | apply below_drew1 | refine below_set ?_ (IsS122.ge HI0.out) | refine below_set ?_ GE146.out) | exact HB.out)⟩⟩
            · replace c19 := Bool.eq_false_iff.mpr c19
              subst c19
              have H1 : (frame_section.j2 kj9 (wrap64 (t147)) t154 x1000_9 x1001_9 x1002_9) = some (r1, r2, r3, r4, r5) := by rw [if_neg (show ¬ (false = true) by decide)] at H; exact H
              clear H
              have H := H1
              clear H1
              have H' := Aside0.mk H
              clear H
              go_wp2
              go_meet
              case rel => exact ⟨_, (x1000_9), (x1001_9), (x1002_9), H', ⟨by have := HJ2.out; have := HJ9.out; first | omega | exact Nat.le_refl _⟩, ⟨by (with_reducible repeat (first | refine blk_drewN ?_ _ | refine blk_drew ?_ | refine blk_alloc ?_ _)); exact BK146.out⟩, ⟨by repeat (first | (with_reducible first | exact HI0.out | apply IsS122.alloc | apply IsS122.drewN | apply IsS122.drew | apply IsS122.set_0 | apply IsS122.set_1 | apply IsS122.set_2 | apply IsS122.setn_2 | apply IsS122.sets_2 | refine IsS122.far ?_ NB0_146.out _) | exact HI0.out)⟩, ⟨by repeat (first | (with_reducible first | exact HK.out | apply KeepBut.set_ | apply keep_drewN | apply keep_drew | apply keep_alloc | refine keep_far ?_ GW146.out _) | exact HK.out)⟩, ⟨by repeat (first | (with_reducible first | exact HB.out | apply below_alloc | apply pw_below_drewN | apply below_drew1 | refine below_set ?_ (IsS122.ge HI0.out) | refine below_set ?_ GE146.out) | exact HB.out)⟩⟩
          case rest =>
            clear HC18
            try clear c1
            try clear p2
            try clear c5
            try clear c6
            try clear c6b0
            try clear c6b1
            try clear p6
            try clear c7
            try clear c13
            try clear c13b0
            try clear c13b1
            try clear c19
            try clear p2
            try clear p6
            obtain ⟨kq, x1000_17, x1001_17, x1002_17, HA, HJ17, BK146, HI0, HK, HB⟩ := hcut
            cases kq with
            | zero => exact absurd HA.out (by simp [frame_section.j2])
            | succ kj17 =>
              have H := HA.out
              clear HA
              simp only [frame_section.j2] at H
              replace H := Option.bind_eq_some_iff.mp H
              obtain ⟨⟨t169, t170, t171, t172⟩, A220, H⟩ := H
              replace H : ((cursor_Cursor_Bytes.f t170 t171 t172 4).bind fun bt174 => ((crc_Get.f bt174.1).bind fun bt178 => (if bt178.2 = true then ((crc_Sum.f t169).bind fun t180 => (if bt178.1 = t180 then (some ((wrap64 (t147)), t169, bt174.2.1, bt174.2.2.1, bt174.2.2.2)) else ((cursor_Cursor_Fail.f bt174.2.1 bt174.2.2.1 bt174.2.2.2 5).bind fun bt181 => (some ((wrap64 (t147)), t169, bt181.1, bt181.2.1, bt181.2.2))))) else ((cursor_Cursor_Fail.f bt174.2.1 bt174.2.2.1 bt174.2.2.2 5).bind fun bt184 => (some ((wrap64 (t147)), t169, bt184.1, bt184.2.1, bt184.2.2)))))) = some (r1, r2, r3, r4, r5) := H
              have A22 := Aside0.mk A220
              clear A220
              replace H := Option.bind_eq_some_iff.mp H
              obtain ⟨⟨t174, t175, t176, t177⟩, A230, H⟩ := H
              replace H : ((crc_Get.f t174).bind fun bt178 => (if bt178.2 = true then ((crc_Sum.f t169).bind fun t180 => (if bt178.1 = t180 then (some ((wrap64 (t147)), t169, t175, t176, t177)) else ((cursor_Cursor_Fail.f t175 t176 t177 5).bind fun bt181 => (some ((wrap64 (t147)), t169, bt181.1, bt181.2.1, bt181.2.2))))) else ((cursor_Cursor_Fail.f t175 t176 t177 5).bind fun bt184 => (some ((wrap64 (t147)), t169, bt184.1, bt184.2.1, bt184.2.2))))) = some (r1, r2, r3, r4, r5) := H
              have A23 := Aside0.mk A230
              clear A230
              replace H := Option.bind_eq_some_iff.mp H
              obtain ⟨⟨t178, t179⟩, A240, H⟩ := H
              replace H : (if t179 = true then ((crc_Sum.f t169).bind fun t180 => (if t178 = t180 then (some ((wrap64 (t147)), t169, t175, t176, t177)) else ((cursor_Cursor_Fail.f t175 t176 t177 5).bind fun bt181 => (some ((wrap64 (t147)), t169, bt181.1, bt181.2.1, bt181.2.2))))) else ((cursor_Cursor_Fail.f t175 t176 t177 5).bind fun bt184 => (some ((wrap64 (t147)), t169, bt184.1, bt184.2.1, bt184.2.2)))) = some (r1, r2, r3, r4, r5) := H
              have A24 := Aside0.mk A240
              clear A240
              by_cases c25 : t179 = true
              · subst c25
                have H1 : ((crc_Sum.f t169).bind fun t180 => (if t178 = t180 then (some ((wrap64 (t147)), t169, t175, t176, t177)) else ((cursor_Cursor_Fail.f t175 t176 t177 5).bind fun bt181 => (some ((wrap64 (t147)), t169, bt181.1, bt181.2.1, bt181.2.2))))) = some (r1, r2, r3, r4, r5) := by rw [if_pos rfl] at H; exact H
                clear H
                have H := H1
                clear H1
                replace H := Option.bind_eq_some_iff.mp H
                obtain ⟨t180, A260, H⟩ := H
                replace H : (if t178 = t180 then (some ((wrap64 (t147)), t169, t175, t176, t177)) else ((cursor_Cursor_Fail.f t175 t176 t177 5).bind fun bt181 => (some ((wrap64 (t147)), t169, bt181.1, bt181.2.1, bt181.2.2)))) = some (r1, r2, r3, r4, r5) := H
                have A26 := Aside0.mk A260
                clear A260
                by_cases c27 : t178 = t180
                · rw [if_pos c27] at H
                  have c27b0 : (t178 == t180) = true := beq_iff_eq.mpr c27
                  have c27b1 : (t178 != t180) = false := bne_eq_false_iff_eq.mpr c27
                  clear c27
                  simp only [Option.some.injEq, Prod.mk.injEq] at H
                  obtain ⟨rfl, rfl, rfl, rfl, rfl⟩ := H
                  go_wp2_with (first | ((with_reducible refine gate_callee (f := 65) rfl ?_); refine goesL_ (some 32) rfl rfl Try.func65 (by kernel_rfl) rfl #[.pointer (some ⟨g, 0, none⟩), .int .i64 t154] rfl (by (try simp only [List.map_toArray, List.map_cons, List.map_nil]); first | done | rfl | (simp only [List.length_drop, List.length_take]; rfl)) ?_; (with_reducible refine (cursor_Cursor_Bytes.calls g x1000_17 x1001_17 x1002_17 t154 t169 t170 t171 t172 w0 _ ?side1 ?side2 A22.out).mono ?_); (case side1 => repeat (first | (with_reducible first | exact HI0.out | apply IsS122.alloc | apply IsS122.drewN | apply IsS122.drew | apply IsS122.set_0 | apply IsS122.set_1 | apply IsS122.set_2 | apply IsS122.setn_2 | apply IsS122.sets_2 | refine IsS122.far ?_ NB0_146.out _) | exact HI0.out)); (case side2 => repeat (first | (with_reducible first | exact HB.out | apply below_alloc | apply pw_below_drewN | apply below_drew1 | refine below_set ?_ (IsS122.ge HI0.out) | refine below_set ?_ GE146.out) | exact HB.out)); rintro e w28 ⟨rfl, hi, hb, hk⟩; refine ⟨_, rfl, ?_⟩; have n0_ := Aside0.mk (KeepBut.blk hk (g' := gb146) (o := .cells #[.int .i64 0, .string (⟨#[]⟩ : ByteArray)] 52 (0, 0)) (by (with_reducible repeat (first | refine blk_drewN ?_ _ | refine blk_drew ?_ | refine blk_alloc ?_ _)); exact BK146.out) NB146_0.out (by simp)); have n1_ := Aside0.mk (KeepBut.trans (by repeat (first | (with_reducible first | exact HK.out | apply KeepBut.set_ | apply keep_drewN | apply keep_drew | apply keep_alloc | refine keep_far ?_ GW146.out _) | exact HK.out)) hk (.inl rfl)); have n2_ := Aside0.mk (hb); have n3_ := Aside0.mk (hi); clear BK146; clear HK; clear HB; clear HI0; have BK146 := n0_; have HK := n1_; have HB := n2_; have HI0 := n3_; clear n0_ n1_ n2_ n3_; (try clear hb); (try clear hb2); (try clear hk); (try clear hi); (try simp only [errW_none, errW_some])) | ((with_reducible refine gate_dst (N := 5) rfl ?_); refine box_event ?hg (N := 5) ?hd (cs := #[.int .i64 0, .string (⟨#[]⟩ : ByteArray)]) (t := 52) ?hr ?_; (case hd => rfl); (case hg => rfl); (case hr => first | (go_simp; done) | (go_simp; rfl)); intro gb173 hg w29 hbox hb; have n0_ := Aside0.mk (blk_below (g := gb146) (o := .cells #[.int .i64 0, .string (⟨#[]⟩ : ByteArray)] 52 (0, 0)) (by (with_reducible repeat (first | refine blk_drewN ?_ _ | refine blk_drew ?_ | refine blk_alloc ?_ _)); exact BK146.out) hb); have n1_ := Aside0.mk (IsS122.below (by repeat (first | (with_reducible first | exact HI0.out | apply IsS122.alloc | apply IsS122.drewN | apply IsS122.drew | apply IsS122.set_0 | apply IsS122.set_1 | apply IsS122.set_2 | apply IsS122.setn_2 | apply IsS122.sets_2 | refine IsS122.far ?_ NB0_146.out _) | exact HI0.out)) hb); have n2_ := Aside0.mk (KeepBut.trans (by repeat (first | (with_reducible first | exact HK.out | apply KeepBut.set_ | apply keep_drewN | apply keep_drew | apply keep_alloc | refine keep_far ?_ GW146.out _) | exact HK.out)) (KeepBut.of_below hb g none) (.inl rfl)); have n3_ := Aside0.mk (below_step (by repeat (first | (with_reducible first | exact HB.out | apply below_alloc | apply pw_below_drewN | apply below_drew1 | refine below_set ?_ (IsS122.ge HI0.out) | refine below_set ?_ GE146.out) | exact HB.out)) hb); have n4_ := Aside0.mk (hbox); have n5_ := Aside0.mk ((by rw [hg]; exact (keep_size (w := w) (g := g) (row := none) (by repeat (first | (with_reducible first | exact HK.out | apply KeepBut.set_ | apply keep_drewN | apply keep_drew | apply keep_alloc | refine keep_far ?_ GW146.out _) | exact HK.out))) : w.heap.size ≤ gb173)); have n6_ := Aside0.mk ((Nat.le_trans HW0.out (by rw [hg]; exact (keep_size (w := w) (g := g) (row := none) (by repeat (first | (with_reducible first | exact HK.out | apply KeepBut.set_ | apply keep_drewN | apply keep_drew | apply keep_alloc | refine keep_far ?_ GW146.out _) | exact HK.out))) : w.heap.size ≤ gb173) : w0.heap.size ≤ gb173)); have n7_ := Aside0.mk ((by rw [hg]; exact Nat.ne_of_lt (blk_lt (g := gb146) (o := .cells #[.int .i64 0, .string (⟨#[]⟩ : ByteArray)] 52 (0, 0)) (by (with_reducible repeat (first | refine blk_drewN ?_ _ | refine blk_drew ?_ | refine blk_alloc ?_ _)); exact BK146.out)) : gb146 ≠ gb173)); have n8_ := Aside0.mk ((by rw [hg]; exact Nat.ne_of_gt (blk_lt (g := gb146) (o := .cells #[.int .i64 0, .string (⟨#[]⟩ : ByteArray)] 52 (0, 0)) (by (with_reducible repeat (first | refine blk_drewN ?_ _ | refine blk_drew ?_ | refine blk_alloc ?_ _)); exact BK146.out)) : gb173 ≠ gb146)); have n9_ := Aside0.mk ((by rw [hg]; exact Nat.ne_of_lt (IsS122.lt (show IsS122 w0 _ g t170 t171 t172 from by repeat (first | (with_reducible first | exact HI0.out | apply IsS122.alloc | apply IsS122.drewN | apply IsS122.drew | apply IsS122.set_0 | apply IsS122.set_1 | apply IsS122.set_2 | apply IsS122.setn_2 | apply IsS122.sets_2 | refine IsS122.far ?_ NB0_146.out _) | exact HI0.out))) : g ≠ gb173)); have n10_ := Aside0.mk ((by rw [hg]; exact Nat.ne_of_gt (IsS122.lt (show IsS122 w0 _ g t170 t171 t172 from by repeat (first | (with_reducible first | exact HI0.out | apply IsS122.alloc | apply IsS122.drewN | apply IsS122.drew | apply IsS122.set_0 | apply IsS122.set_1 | apply IsS122.set_2 | apply IsS122.setn_2 | apply IsS122.sets_2 | refine IsS122.far ?_ NB0_146.out _) | exact HI0.out))) : gb173 ≠ g)); clear BK146; clear HI0; clear HK; clear HB; have BK146 := n0_; have HI0 := n1_; have HK := n2_; have HB := n3_; have BK173 := n4_; have GW173 := n5_; have GE173 := n6_; have NB146_173 := n7_; have NB173_146 := n8_; have NB0_173 := n9_; have NB173_0 := n10_; clear n0_ n1_ n2_ n3_ n4_ n5_ n6_ n7_ n8_ n9_ n10_; clear hb hbox hg; have hnb30 := NB173_146.out; have hnc30 := NB146_173.out; have hnb31 := NB173_0.out; have hnc31 := NB0_173.out; have hcz32_0 : w29.cell? ⟨gb173, 0, none⟩ = some (.int .i64 0) := (blk_cell BK173.out 0).trans rfl; have hcz32_1 : w29.cell? ⟨gb173, 1, none⟩ = some (.string (⟨#[]⟩ : ByteArray)) := (blk_cell BK173.out 1).trans rfl; have hfz32_0 := blk_frozen BK173.out 0; have hfz32_1 := blk_frozen BK173.out 1) | ((with_reducible refine gate_callee (f := 65) rfl ?_); refine goesL_ (some 36) rfl rfl Try.func65 (by kernel_rfl) rfl #[.pointer (some ⟨g, 0, none⟩), .int .i64 4] rfl (by (try simp only [List.map_toArray, List.map_cons, List.map_nil]); first | done | rfl | (simp only [List.length_drop, List.length_take]; rfl)) ?_; (with_reducible refine (cursor_Cursor_Bytes.calls g t170 t171 t172 4 t174 t175 t176 t177 w0 _ ?side1 ?side2 A23.out).mono ?_); (case side1 => repeat (first | (with_reducible first | exact HI0.out | apply IsS122.alloc | apply IsS122.drewN | apply IsS122.drew | apply IsS122.set_0 | apply IsS122.set_1 | apply IsS122.set_2 | apply IsS122.setn_2 | apply IsS122.sets_2 | refine IsS122.far ?_ NB0_146.out _ | refine IsS122.far ?_ NB0_173.out _) | exact HI0.out)); (case side2 => repeat (first | (with_reducible first | exact HB.out | apply below_alloc | apply pw_below_drewN | apply below_drew1 | refine below_set ?_ (IsS122.ge HI0.out) | refine below_set ?_ GE146.out | refine below_set ?_ GE173.out) | exact HB.out)); rintro e w33 ⟨rfl, hi, hb, hk⟩; refine ⟨_, rfl, ?_⟩; have n0_ := Aside0.mk (KeepBut.blk hk (g' := gb146) (o := .cells #[.int .i64 0, .string (⟨#[]⟩ : ByteArray)] 52 (0, 0)) (by (with_reducible repeat (first | refine blk_drewN ?_ _ | refine blk_drew ?_ | refine blk_alloc ?_ _)); refine blk_far ?_ NB146_173.out _; (with_reducible repeat (first | refine blk_drewN ?_ _ | refine blk_drew ?_ | refine blk_alloc ?_ _)); refine blk_far ?_ NB146_173.out _; (with_reducible repeat (first | refine blk_drewN ?_ _ | refine blk_drew ?_ | refine blk_alloc ?_ _)); exact BK146.out) NB146_0.out (by simp)); have n1_ := Aside0.mk (KeepBut.blk hk (g' := gb173) (o := .cells #[.int .i64 (wrap64 (t147)), .string t169] 52 (0, 0)) (by (with_reducible repeat (first | refine blk_drewN ?_ _ | refine blk_drew ?_ | refine blk_alloc ?_ _)); refine blk_put (cs := #[.int .i64 (wrap64 (t147)), .string (⟨#[]⟩ : ByteArray)]) ?_ 1 _ rfl; (with_reducible repeat (first | refine blk_drewN ?_ _ | refine blk_drew ?_ | refine blk_alloc ?_ _)); refine blk_put (cs := #[.int .i64 0, .string (⟨#[]⟩ : ByteArray)]) ?_ 0 _ rfl; (with_reducible repeat (first | refine blk_drewN ?_ _ | refine blk_drew ?_ | refine blk_alloc ?_ _)); exact BK173.out) NB173_0.out (by simp)); have n2_ := Aside0.mk (KeepBut.trans (by repeat (first | (with_reducible first | exact HK.out | apply KeepBut.set_ | apply keep_drewN | apply keep_drew | apply keep_alloc | refine keep_far ?_ GW146.out _ | refine keep_far ?_ GW173.out _) | exact HK.out)) hk (.inl rfl)); have n3_ := Aside0.mk (hb); have n4_ := Aside0.mk (hi); clear BK146; clear BK173; clear HK; clear HB; clear HI0; have BK146 := n0_; have BK173 := n1_; have HK := n2_; have HB := n3_; have HI0 := n4_; clear n0_ n1_ n2_ n3_ n4_; (try clear hb); (try clear hb2); (try clear hk); (try clear hi); (try simp only [errW_none, errW_some])) | ((with_reducible refine gate_callee (f := 23) rfl ?_); refine goesL_ (some 37) rfl rfl Try.func23 (by kernel_rfl) rfl #[.string t174] rfl (by (try simp only [List.map_toArray, List.map_cons, List.map_nil]); first | done | rfl | (simp only [List.length_drop, List.length_take]; rfl)) ?_; (with_reducible refine (crc_Get.calls t174 t178 true _ A24.out).mono ?_); rintro e w' ⟨rfl, ⟨nd, rfl⟩⟩; refine ⟨_, rfl, ?_⟩; (try (rw [drewN_self w33]; generalize hq_ : World.drewN w33 _ = w33; have n0_ : Aside0 (w33.heap[gb146]? = some (.cells #[.int .i64 0, .string (⟨#[]⟩ : ByteArray)] 52 (0, 0))) := ⟨by rw [← hq_]; exact (by (with_reducible repeat (first | refine blk_drewN ?_ _ | refine blk_drew ?_ | refine blk_alloc ?_ _)); exact BK146.out)⟩; have n1_ : Aside0 (w33.heap[gb173]? = some (.cells #[.int .i64 (wrap64 (t147)), .string t169] 52 (0, 0))) := ⟨by rw [← hq_]; exact (by (with_reducible repeat (first | refine blk_drewN ?_ _ | refine blk_drew ?_ | refine blk_alloc ?_ _)); exact BK173.out)⟩; have n2_ : Aside0 (IsS122 w0 w33 g t175 t176 t177) := ⟨by rw [← hq_]; exact (by repeat (first | (with_reducible first | exact HI0.out | apply IsS122.alloc | apply IsS122.drewN | apply IsS122.drew | apply IsS122.set_0 | apply IsS122.set_1 | apply IsS122.set_2 | apply IsS122.setn_2 | apply IsS122.sets_2 | refine IsS122.far ?_ NB0_146.out _ | refine IsS122.far ?_ NB0_173.out _) | exact HI0.out))⟩; have n3_ : Aside0 (KeepBut w w33 g none) := ⟨by rw [← hq_]; exact (by repeat (first | (with_reducible first | exact HK.out | apply KeepBut.set_ | apply keep_drewN | apply keep_drew | apply keep_alloc | refine keep_far ?_ GW146.out _ | refine keep_far ?_ GW173.out _) | exact HK.out))⟩; have n4_ : Aside0 (Below w0.heap.size w0 w33) := ⟨by rw [← hq_]; exact (by repeat (first | (with_reducible first | exact HB.out | apply below_alloc | apply pw_below_drewN | apply below_drew1 | refine below_set ?_ (IsS122.ge HI0.out) | refine below_set ?_ GE146.out | refine below_set ?_ GE173.out) | exact HB.out))⟩; clear BK146 BK173 HI0 HK HB hq_; have BK146 := n0_; have BK173 := n1_; have HI0 := n2_; have HK := n3_; have HB := n4_; clear n0_ n1_ n2_ n3_ n4_)); have hcz34_0 : w33.cell? ⟨gb173, 0, none⟩ = some (.int .i64 (wrap64 (t147))) := (blk_cell BK173.out 0).trans rfl; have hcz34_1 : w33.cell? ⟨gb173, 1, none⟩ = some (.string t169) := (blk_cell BK173.out 1).trans rfl; have hfz34_0 := blk_frozen BK173.out 0; have hfz34_1 := blk_frozen BK173.out 1) | (go_at_call 20; (with_reducible refine (crc_Sum.calls t169 t180 _ A26.out).mono ?_); rintro e w35 ⟨rfl, hb⟩; have n0_ := Aside0.mk (blk_below (g := gb146) (o := .cells #[.int .i64 0, .string (⟨#[]⟩ : ByteArray)] 52 (0, 0)) (by (with_reducible repeat (first | refine blk_drewN ?_ _ | refine blk_drew ?_ | refine blk_alloc ?_ _)); exact BK146.out) hb); have n1_ := Aside0.mk (IsS122.below (by repeat (first | (with_reducible first | exact HI0.out | apply IsS122.alloc | apply IsS122.drewN | apply IsS122.drew | apply IsS122.set_0 | apply IsS122.set_1 | apply IsS122.set_2 | apply IsS122.setn_2 | apply IsS122.sets_2 | refine IsS122.far ?_ NB0_146.out _ | refine IsS122.far ?_ NB0_173.out _) | exact HI0.out)) hb); have n2_ := Aside0.mk (blk_below (g := gb173) (o := .cells #[.int .i64 (wrap64 (t147)), .string t169] 52 (0, 0)) (by (with_reducible repeat (first | refine blk_drewN ?_ _ | refine blk_drew ?_ | refine blk_alloc ?_ _)); exact BK173.out) hb); have n3_ := Aside0.mk (KeepBut.trans (by repeat (first | (with_reducible first | exact HK.out | apply KeepBut.set_ | apply keep_drewN | apply keep_drew | apply keep_alloc | refine keep_far ?_ GW146.out _ | refine keep_far ?_ GW173.out _) | exact HK.out)) (KeepBut.of_below hb g none) (.inl rfl)); have n4_ := Aside0.mk (below_step (by repeat (first | (with_reducible first | exact HB.out | apply below_alloc | apply pw_below_drewN | apply below_drew1 | refine below_set ?_ (IsS122.ge HI0.out) | refine below_set ?_ GE146.out | refine below_set ?_ GE173.out) | exact HB.out)) hb); clear BK146; clear HI0; clear BK173; clear HK; clear HB; have BK146 := n0_; have HI0 := n1_; have BK173 := n2_; have HK := n3_; have HB := n4_; clear n0_ n1_ n2_ n3_ n4_; (try clear hb); (try clear hb2); (try clear hk); (try clear hi); have hcz36_0 : w35.cell? ⟨gb173, 0, none⟩ = some (.int .i64 (wrap64 (t147))) := (blk_cell BK173.out 0).trans rfl; have hcz36_1 : w35.cell? ⟨gb173, 1, none⟩ = some (.string t169) := (blk_cell BK173.out 1).trans rfl; have hfz36_0 := blk_frozen BK173.out 0; have hfz36_1 := blk_frozen BK173.out 1; have hnb37 := NB146_0.out; have hnc37 := NB0_146.out; have hcz38_0 : w35.cell? ⟨gb146, 0, none⟩ = some (.int .i64 0) := (blk_cell BK146.out 0).trans rfl; have hcz38_1 : w35.cell? ⟨gb146, 1, none⟩ = some (.string (⟨#[]⟩ : ByteArray)) := (blk_cell BK146.out 1).trans rfl; have hfz38_0 := blk_frozen BK146.out 0; have hfz38_1 := blk_frozen BK146.out 1))
                  refine bodyPost_ret (results_cell_row rfl _ _ gb146 52 #[.int .i64 (wrap64 (t147)), .string t169] (0, 0) _ rfl (by (with_reducible repeat (first | refine blk_drewN ?_ _ | refine blk_drew ?_ | refine blk_alloc ?_ _)); refine blk_put (cs := #[.int .i64 (wrap64 (t147)), .string (⟨#[]⟩ : ByteArray)]) ?_ 1 _ rfl; (with_reducible repeat (first | refine blk_drewN ?_ _ | refine blk_drew ?_ | refine blk_alloc ?_ _)); refine blk_put (cs := #[.int .i64 0, .string (⟨#[]⟩ : ByteArray)]) ?_ 0 _ rfl; (with_reducible repeat (first | refine blk_drewN ?_ _ | refine blk_drew ?_ | refine blk_alloc ?_ _)); exact BK146.out) Try.underlying52 rfl (by kernel_rfl)) rfl ?_
                  exact ⟨by first | rfl | (simp [errW_none, errW_some] <;> rfl) | (simp [*, errW_none, errW_some] <;> rfl), by repeat (first | (with_reducible first | exact HI0.out | apply IsS122.alloc | apply IsS122.drewN | apply IsS122.drew | apply IsS122.set_0 | apply IsS122.set_1 | apply IsS122.set_2 | apply IsS122.setn_2 | apply IsS122.sets_2 | refine IsS122.far ?_ NB0_146.out _ | refine IsS122.far ?_ NB0_173.out _) | exact HI0.out), by repeat (first | (with_reducible first | exact HB.out | apply below_alloc | apply pw_below_drewN | apply below_drew1 | refine below_set ?_ (IsS122.ge HI0.out) | refine below_set ?_ GE146.out | refine below_set ?_ GE173.out) | exact HB.out), by repeat (first | (with_reducible first | exact HK.out | apply KeepBut.set_ | apply keep_drewN | apply keep_drew | apply keep_alloc | refine keep_far ?_ GW146.out _ | refine keep_far ?_ GW173.out _) | exact HK.out)⟩
                · rw [if_neg c27] at H
                  have c27b0 : (t178 == t180) = false := beq_eq_false_iff_ne.mpr c27
                  have c27b1 : (t178 != t180) = true := bne_iff_ne.mpr c27
                  replace H := Option.bind_eq_some_iff.mp H
                  obtain ⟨⟨t181, t182, t183⟩, A390, H⟩ := H
                  replace H : (some ((wrap64 (t147)), t169, t181, t182, t183)) = some (r1, r2, r3, r4, r5) := H
                  have A39 := Aside0.mk A390
                  clear A390
                  simp only [Option.some.injEq, Prod.mk.injEq] at H
                  obtain ⟨rfl, rfl, rfl, rfl, rfl⟩ := H
                  go_wp2_with (first | ((with_reducible refine gate_callee (f := 65) rfl ?_); refine goesL_ (some 32) rfl rfl Try.func65 (by kernel_rfl) rfl #[.pointer (some ⟨g, 0, none⟩), .int .i64 t154] rfl (by (try simp only [List.map_toArray, List.map_cons, List.map_nil]); first | done | rfl | (simp only [List.length_drop, List.length_take]; rfl)) ?_; (with_reducible refine (cursor_Cursor_Bytes.calls g x1000_17 x1001_17 x1002_17 t154 t169 t170 t171 t172 w0 _ ?side1 ?side2 A22.out).mono ?_); (case side1 => repeat (first | (with_reducible first | exact HI0.out | apply IsS122.alloc | apply IsS122.drewN | apply IsS122.drew | apply IsS122.set_0 | apply IsS122.set_1 | apply IsS122.set_2 | apply IsS122.setn_2 | apply IsS122.sets_2 | refine IsS122.far ?_ NB0_146.out _) | exact HI0.out)); (case side2 => repeat (first | (with_reducible first | exact HB.out | apply below_alloc | apply pw_below_drewN | apply below_drew1 | refine below_set ?_ (IsS122.ge HI0.out) | refine below_set ?_ GE146.out) | exact HB.out)); rintro e w40 ⟨rfl, hi, hb, hk⟩; refine ⟨_, rfl, ?_⟩; have n0_ := Aside0.mk (KeepBut.blk hk (g' := gb146) (o := .cells #[.int .i64 0, .string (⟨#[]⟩ : ByteArray)] 52 (0, 0)) (by (with_reducible repeat (first | refine blk_drewN ?_ _ | refine blk_drew ?_ | refine blk_alloc ?_ _)); exact BK146.out) NB146_0.out (by simp)); have n1_ := Aside0.mk (KeepBut.trans (by repeat (first | (with_reducible first | exact HK.out | apply KeepBut.set_ | apply keep_drewN | apply keep_drew | apply keep_alloc | refine keep_far ?_ GW146.out _) | exact HK.out)) hk (.inl rfl)); have n2_ := Aside0.mk (hb); have n3_ := Aside0.mk (hi); clear BK146; clear HK; clear HB; clear HI0; have BK146 := n0_; have HK := n1_; have HB := n2_; have HI0 := n3_; clear n0_ n1_ n2_ n3_; (try clear hb); (try clear hb2); (try clear hk); (try clear hi); (try simp only [errW_none, errW_some])) | ((with_reducible refine gate_dst (N := 5) rfl ?_); refine box_event ?hg (N := 5) ?hd (cs := #[.int .i64 0, .string (⟨#[]⟩ : ByteArray)]) (t := 52) ?hr ?_; (case hd => rfl); (case hg => rfl); (case hr => first | (go_simp; done) | (go_simp; rfl)); intro gb173 hg w41 hbox hb; have n0_ := Aside0.mk (blk_below (g := gb146) (o := .cells #[.int .i64 0, .string (⟨#[]⟩ : ByteArray)] 52 (0, 0)) (by (with_reducible repeat (first | refine blk_drewN ?_ _ | refine blk_drew ?_ | refine blk_alloc ?_ _)); exact BK146.out) hb); have n1_ := Aside0.mk (IsS122.below (by repeat (first | (with_reducible first | exact HI0.out | apply IsS122.alloc | apply IsS122.drewN | apply IsS122.drew | apply IsS122.set_0 | apply IsS122.set_1 | apply IsS122.set_2 | apply IsS122.setn_2 | apply IsS122.sets_2 | refine IsS122.far ?_ NB0_146.out _) | exact HI0.out)) hb); have n2_ := Aside0.mk (KeepBut.trans (by repeat (first | (with_reducible first | exact HK.out | apply KeepBut.set_ | apply keep_drewN | apply keep_drew | apply keep_alloc | refine keep_far ?_ GW146.out _) | exact HK.out)) (KeepBut.of_below hb g none) (.inl rfl)); have n3_ := Aside0.mk (below_step (by repeat (first | (with_reducible first | exact HB.out | apply below_alloc | apply pw_below_drewN | apply below_drew1 | refine below_set ?_ (IsS122.ge HI0.out) | refine below_set ?_ GE146.out) | exact HB.out)) hb); have n4_ := Aside0.mk (hbox); have n5_ := Aside0.mk ((by rw [hg]; exact (keep_size (w := w) (g := g) (row := none) (by repeat (first | (with_reducible first | exact HK.out | apply KeepBut.set_ | apply keep_drewN | apply keep_drew | apply keep_alloc | refine keep_far ?_ GW146.out _) | exact HK.out))) : w.heap.size ≤ gb173)); have n6_ := Aside0.mk ((Nat.le_trans HW0.out (by rw [hg]; exact (keep_size (w := w) (g := g) (row := none) (by repeat (first | (with_reducible first | exact HK.out | apply KeepBut.set_ | apply keep_drewN | apply keep_drew | apply keep_alloc | refine keep_far ?_ GW146.out _) | exact HK.out))) : w.heap.size ≤ gb173) : w0.heap.size ≤ gb173)); have n7_ := Aside0.mk ((by rw [hg]; exact Nat.ne_of_lt (blk_lt (g := gb146) (o := .cells #[.int .i64 0, .string (⟨#[]⟩ : ByteArray)] 52 (0, 0)) (by (with_reducible repeat (first | refine blk_drewN ?_ _ | refine blk_drew ?_ | refine blk_alloc ?_ _)); exact BK146.out)) : gb146 ≠ gb173)); have n8_ := Aside0.mk ((by rw [hg]; exact Nat.ne_of_gt (blk_lt (g := gb146) (o := .cells #[.int .i64 0, .string (⟨#[]⟩ : ByteArray)] 52 (0, 0)) (by (with_reducible repeat (first | refine blk_drewN ?_ _ | refine blk_drew ?_ | refine blk_alloc ?_ _)); exact BK146.out)) : gb173 ≠ gb146)); have n9_ := Aside0.mk ((by rw [hg]; exact Nat.ne_of_lt (IsS122.lt (show IsS122 w0 _ g t170 t171 t172 from by repeat (first | (with_reducible first | exact HI0.out | apply IsS122.alloc | apply IsS122.drewN | apply IsS122.drew | apply IsS122.set_0 | apply IsS122.set_1 | apply IsS122.set_2 | apply IsS122.setn_2 | apply IsS122.sets_2 | refine IsS122.far ?_ NB0_146.out _) | exact HI0.out))) : g ≠ gb173)); have n10_ := Aside0.mk ((by rw [hg]; exact Nat.ne_of_gt (IsS122.lt (show IsS122 w0 _ g t170 t171 t172 from by repeat (first | (with_reducible first | exact HI0.out | apply IsS122.alloc | apply IsS122.drewN | apply IsS122.drew | apply IsS122.set_0 | apply IsS122.set_1 | apply IsS122.set_2 | apply IsS122.setn_2 | apply IsS122.sets_2 | refine IsS122.far ?_ NB0_146.out _) | exact HI0.out))) : gb173 ≠ g)); clear BK146; clear HI0; clear HK; clear HB; have BK146 := n0_; have HI0 := n1_; have HK := n2_; have HB := n3_; have BK173 := n4_; have GW173 := n5_; have GE173 := n6_; have NB146_173 := n7_; have NB173_146 := n8_; have NB0_173 := n9_; have NB173_0 := n10_; clear n0_ n1_ n2_ n3_ n4_ n5_ n6_ n7_ n8_ n9_ n10_; clear hb hbox hg; have hnb42 := NB173_146.out; have hnc42 := NB146_173.out; have hnb43 := NB173_0.out; have hnc43 := NB0_173.out; have hcz44_0 : w41.cell? ⟨gb173, 0, none⟩ = some (.int .i64 0) := (blk_cell BK173.out 0).trans rfl; have hcz44_1 : w41.cell? ⟨gb173, 1, none⟩ = some (.string (⟨#[]⟩ : ByteArray)) := (blk_cell BK173.out 1).trans rfl; have hfz44_0 := blk_frozen BK173.out 0; have hfz44_1 := blk_frozen BK173.out 1) | ((with_reducible refine gate_callee (f := 65) rfl ?_); refine goesL_ (some 36) rfl rfl Try.func65 (by kernel_rfl) rfl #[.pointer (some ⟨g, 0, none⟩), .int .i64 4] rfl (by (try simp only [List.map_toArray, List.map_cons, List.map_nil]); first | done | rfl | (simp only [List.length_drop, List.length_take]; rfl)) ?_; (with_reducible refine (cursor_Cursor_Bytes.calls g t170 t171 t172 4 t174 t175 t176 t177 w0 _ ?side1 ?side2 A23.out).mono ?_); (case side1 => repeat (first | (with_reducible first | exact HI0.out | apply IsS122.alloc | apply IsS122.drewN | apply IsS122.drew | apply IsS122.set_0 | apply IsS122.set_1 | apply IsS122.set_2 | apply IsS122.setn_2 | apply IsS122.sets_2 | refine IsS122.far ?_ NB0_146.out _ | refine IsS122.far ?_ NB0_173.out _) | exact HI0.out)); (case side2 => repeat (first | (with_reducible first | exact HB.out | apply below_alloc | apply pw_below_drewN | apply below_drew1 | refine below_set ?_ (IsS122.ge HI0.out) | refine below_set ?_ GE146.out | refine below_set ?_ GE173.out) | exact HB.out)); rintro e w45 ⟨rfl, hi, hb, hk⟩; refine ⟨_, rfl, ?_⟩; have n0_ := Aside0.mk (KeepBut.blk hk (g' := gb146) (o := .cells #[.int .i64 0, .string (⟨#[]⟩ : ByteArray)] 52 (0, 0)) (by (with_reducible repeat (first | refine blk_drewN ?_ _ | refine blk_drew ?_ | refine blk_alloc ?_ _)); refine blk_far ?_ NB146_173.out _; (with_reducible repeat (first | refine blk_drewN ?_ _ | refine blk_drew ?_ | refine blk_alloc ?_ _)); refine blk_far ?_ NB146_173.out _; (with_reducible repeat (first | refine blk_drewN ?_ _ | refine blk_drew ?_ | refine blk_alloc ?_ _)); exact BK146.out) NB146_0.out (by simp)); have n1_ := Aside0.mk (KeepBut.blk hk (g' := gb173) (o := .cells #[.int .i64 (wrap64 (t147)), .string t169] 52 (0, 0)) (by (with_reducible repeat (first | refine blk_drewN ?_ _ | refine blk_drew ?_ | refine blk_alloc ?_ _)); refine blk_put (cs := #[.int .i64 (wrap64 (t147)), .string (⟨#[]⟩ : ByteArray)]) ?_ 1 _ rfl; (with_reducible repeat (first | refine blk_drewN ?_ _ | refine blk_drew ?_ | refine blk_alloc ?_ _)); refine blk_put (cs := #[.int .i64 0, .string (⟨#[]⟩ : ByteArray)]) ?_ 0 _ rfl; (with_reducible repeat (first | refine blk_drewN ?_ _ | refine blk_drew ?_ | refine blk_alloc ?_ _)); exact BK173.out) NB173_0.out (by simp)); have n2_ := Aside0.mk (KeepBut.trans (by repeat (first | (with_reducible first | exact HK.out | apply KeepBut.set_ | apply keep_drewN | apply keep_drew | apply keep_alloc | refine keep_far ?_ GW146.out _ | refine keep_far ?_ GW173.out _) | exact HK.out)) hk (.inl rfl)); have n3_ := Aside0.mk (hb); have n4_ := Aside0.mk (hi); clear BK146; clear BK173; clear HK; clear HB; clear HI0; have BK146 := n0_; have BK173 := n1_; have HK := n2_; have HB := n3_; have HI0 := n4_; clear n0_ n1_ n2_ n3_ n4_; (try clear hb); (try clear hb2); (try clear hk); (try clear hi); (try simp only [errW_none, errW_some])) | ((with_reducible refine gate_callee (f := 23) rfl ?_); refine goesL_ (some 37) rfl rfl Try.func23 (by kernel_rfl) rfl #[.string t174] rfl (by (try simp only [List.map_toArray, List.map_cons, List.map_nil]); first | done | rfl | (simp only [List.length_drop, List.length_take]; rfl)) ?_; (with_reducible refine (crc_Get.calls t174 t178 true _ A24.out).mono ?_); rintro e w' ⟨rfl, ⟨nd, rfl⟩⟩; refine ⟨_, rfl, ?_⟩; (try (rw [drewN_self w45]; generalize hq_ : World.drewN w45 _ = w45; have n0_ : Aside0 (w45.heap[gb146]? = some (.cells #[.int .i64 0, .string (⟨#[]⟩ : ByteArray)] 52 (0, 0))) := ⟨by rw [← hq_]; exact (by (with_reducible repeat (first | refine blk_drewN ?_ _ | refine blk_drew ?_ | refine blk_alloc ?_ _)); exact BK146.out)⟩; have n1_ : Aside0 (w45.heap[gb173]? = some (.cells #[.int .i64 (wrap64 (t147)), .string t169] 52 (0, 0))) := ⟨by rw [← hq_]; exact (by (with_reducible repeat (first | refine blk_drewN ?_ _ | refine blk_drew ?_ | refine blk_alloc ?_ _)); exact BK173.out)⟩; have n2_ : Aside0 (IsS122 w0 w45 g t175 t176 t177) := ⟨by rw [← hq_]; exact (by repeat (first | (with_reducible first | exact HI0.out | apply IsS122.alloc | apply IsS122.drewN | apply IsS122.drew | apply IsS122.set_0 | apply IsS122.set_1 | apply IsS122.set_2 | apply IsS122.setn_2 | apply IsS122.sets_2 | refine IsS122.far ?_ NB0_146.out _ | refine IsS122.far ?_ NB0_173.out _) | exact HI0.out))⟩; have n3_ : Aside0 (KeepBut w w45 g none) := ⟨by rw [← hq_]; exact (by repeat (first | (with_reducible first | exact HK.out | apply KeepBut.set_ | apply keep_drewN | apply keep_drew | apply keep_alloc | refine keep_far ?_ GW146.out _ | refine keep_far ?_ GW173.out _) | exact HK.out))⟩; have n4_ : Aside0 (Below w0.heap.size w0 w45) := ⟨by rw [← hq_]; exact (by repeat (first | (with_reducible first | exact HB.out | apply below_alloc | apply pw_below_drewN | apply below_drew1 | refine below_set ?_ (IsS122.ge HI0.out) | refine below_set ?_ GE146.out | refine below_set ?_ GE173.out) | exact HB.out))⟩; clear BK146 BK173 HI0 HK HB hq_; have BK146 := n0_; have BK173 := n1_; have HI0 := n2_; have HK := n3_; have HB := n4_; clear n0_ n1_ n2_ n3_ n4_)); have hcz46_0 : w45.cell? ⟨gb173, 0, none⟩ = some (.int .i64 (wrap64 (t147))) := (blk_cell BK173.out 0).trans rfl; have hcz46_1 : w45.cell? ⟨gb173, 1, none⟩ = some (.string t169) := (blk_cell BK173.out 1).trans rfl; have hfz46_0 := blk_frozen BK173.out 0; have hfz46_1 := blk_frozen BK173.out 1) | (go_at_call 20; (with_reducible refine (crc_Sum.calls t169 t180 _ A26.out).mono ?_); rintro e w47 ⟨rfl, hb⟩; have n0_ := Aside0.mk (blk_below (g := gb146) (o := .cells #[.int .i64 0, .string (⟨#[]⟩ : ByteArray)] 52 (0, 0)) (by (with_reducible repeat (first | refine blk_drewN ?_ _ | refine blk_drew ?_ | refine blk_alloc ?_ _)); exact BK146.out) hb); have n1_ := Aside0.mk (IsS122.below (by repeat (first | (with_reducible first | exact HI0.out | apply IsS122.alloc | apply IsS122.drewN | apply IsS122.drew | apply IsS122.set_0 | apply IsS122.set_1 | apply IsS122.set_2 | apply IsS122.setn_2 | apply IsS122.sets_2 | refine IsS122.far ?_ NB0_146.out _ | refine IsS122.far ?_ NB0_173.out _) | exact HI0.out)) hb); have n2_ := Aside0.mk (blk_below (g := gb173) (o := .cells #[.int .i64 (wrap64 (t147)), .string t169] 52 (0, 0)) (by (with_reducible repeat (first | refine blk_drewN ?_ _ | refine blk_drew ?_ | refine blk_alloc ?_ _)); exact BK173.out) hb); have n3_ := Aside0.mk (KeepBut.trans (by repeat (first | (with_reducible first | exact HK.out | apply KeepBut.set_ | apply keep_drewN | apply keep_drew | apply keep_alloc | refine keep_far ?_ GW146.out _ | refine keep_far ?_ GW173.out _) | exact HK.out)) (KeepBut.of_below hb g none) (.inl rfl)); have n4_ := Aside0.mk (below_step (by repeat (first | (with_reducible first | exact HB.out | apply below_alloc | apply pw_below_drewN | apply below_drew1 | refine below_set ?_ (IsS122.ge HI0.out) | refine below_set ?_ GE146.out | refine below_set ?_ GE173.out) | exact HB.out)) hb); clear BK146; clear HI0; clear BK173; clear HK; clear HB; have BK146 := n0_; have HI0 := n1_; have BK173 := n2_; have HK := n3_; have HB := n4_; clear n0_ n1_ n2_ n3_ n4_; (try clear hb); (try clear hb2); (try clear hk); (try clear hi)) | ((with_reducible refine gate_callee (f := 52) rfl ?_); refine goesL_ (some 50) rfl rfl Try.func52 (by kernel_rfl) rfl #[.pointer (some ⟨g, 0, none⟩), .int .i64 5] rfl (by (try simp only [List.map_toArray, List.map_cons, List.map_nil]); first | done | rfl | (simp only [List.length_drop, List.length_take]; rfl)) ?_; (with_reducible refine (cursor_Cursor_Fail.calls g t175 t176 t177 5 t181 t182 t183 w0 _ ?side1 ?side2 A39.out).mono ?_); (case side1 => repeat (first | (with_reducible first | exact HI0.out | apply IsS122.alloc | apply IsS122.drewN | apply IsS122.drew | apply IsS122.set_0 | apply IsS122.set_1 | apply IsS122.set_2 | apply IsS122.setn_2 | apply IsS122.sets_2 | refine IsS122.far ?_ NB0_146.out _ | refine IsS122.far ?_ NB0_173.out _) | exact HI0.out)); (case side2 => repeat (first | (with_reducible first | exact HB.out | apply below_alloc | apply pw_below_drewN | apply below_drew1 | refine below_set ?_ (IsS122.ge HI0.out) | refine below_set ?_ GE146.out | refine below_set ?_ GE173.out) | exact HB.out)); rintro e w48 ⟨rfl, hi, hb, hk⟩; refine ⟨_, rfl, ?_⟩; have n0_ := Aside0.mk (KeepBut.blk hk (g' := gb146) (o := .cells #[.int .i64 0, .string (⟨#[]⟩ : ByteArray)] 52 (0, 0)) (by (with_reducible repeat (first | refine blk_drewN ?_ _ | refine blk_drew ?_ | refine blk_alloc ?_ _)); exact BK146.out) NB146_0.out (by simp)); have n1_ := Aside0.mk (KeepBut.blk hk (g' := gb173) (o := .cells #[.int .i64 (wrap64 (t147)), .string t169] 52 (0, 0)) (by (with_reducible repeat (first | refine blk_drewN ?_ _ | refine blk_drew ?_ | refine blk_alloc ?_ _)); exact BK173.out) NB173_0.out (by simp)); have n2_ := Aside0.mk (KeepBut.trans (by repeat (first | (with_reducible first | exact HK.out | apply KeepBut.set_ | apply keep_drewN | apply keep_drew | apply keep_alloc | refine keep_far ?_ GW146.out _ | refine keep_far ?_ GW173.out _) | exact HK.out)) hk (.inl rfl)); have n3_ := Aside0.mk (hb); have n4_ := Aside0.mk (hi); clear BK146; clear BK173; clear HK; clear HB; clear HI0; have BK146 := n0_; have BK173 := n1_; have HK := n2_; have HB := n3_; have HI0 := n4_; clear n0_ n1_ n2_ n3_ n4_; (try clear hb); (try clear hb2); (try clear hk); (try clear hi); (try simp only [errW_none, errW_some]); have hcz49_0 : w48.cell? ⟨gb173, 0, none⟩ = some (.int .i64 (wrap64 (t147))) := (blk_cell BK173.out 0).trans rfl; have hcz49_1 : w48.cell? ⟨gb173, 1, none⟩ = some (.string t169) := (blk_cell BK173.out 1).trans rfl; have hfz49_0 := blk_frozen BK173.out 0; have hfz49_1 := blk_frozen BK173.out 1; have hnb50 := NB146_0.out; have hnc50 := NB0_146.out; have hcz51_0 : w48.cell? ⟨gb146, 0, none⟩ = some (.int .i64 0) := (blk_cell BK146.out 0).trans rfl; have hcz51_1 : w48.cell? ⟨gb146, 1, none⟩ = some (.string (⟨#[]⟩ : ByteArray)) := (blk_cell BK146.out 1).trans rfl; have hfz51_0 := blk_frozen BK146.out 0; have hfz51_1 := blk_frozen BK146.out 1))
                  refine bodyPost_ret (results_cell_row rfl _ _ gb146 52 #[.int .i64 (wrap64 (t147)), .string t169] (0, 0) _ rfl (by (with_reducible repeat (first | refine blk_drewN ?_ _ | refine blk_drew ?_ | refine blk_alloc ?_ _)); refine blk_put (cs := #[.int .i64 (wrap64 (t147)), .string (⟨#[]⟩ : ByteArray)]) ?_ 1 _ rfl; (with_reducible repeat (first | refine blk_drewN ?_ _ | refine blk_drew ?_ | refine blk_alloc ?_ _)); refine blk_put (cs := #[.int .i64 0, .string (⟨#[]⟩ : ByteArray)]) ?_ 0 _ rfl; (with_reducible repeat (first | refine blk_drewN ?_ _ | refine blk_drew ?_ | refine blk_alloc ?_ _)); exact BK146.out) Try.underlying52 rfl (by kernel_rfl)) rfl ?_
                  exact ⟨by first | rfl | (simp [errW_none, errW_some] <;> rfl) | (simp [*, errW_none, errW_some] <;> rfl), by repeat (first | (with_reducible first | exact HI0.out | apply IsS122.alloc | apply IsS122.drewN | apply IsS122.drew | apply IsS122.set_0 | apply IsS122.set_1 | apply IsS122.set_2 | apply IsS122.setn_2 | apply IsS122.sets_2 | refine IsS122.far ?_ NB0_146.out _ | refine IsS122.far ?_ NB0_173.out _) | exact HI0.out), by repeat (first | (with_reducible first | exact HB.out | apply below_alloc | apply pw_below_drewN | apply below_drew1 | refine below_set ?_ (IsS122.ge HI0.out) | refine below_set ?_ GE146.out | refine below_set ?_ GE173.out) | exact HB.out), by repeat (first | (with_reducible first | exact HK.out | apply KeepBut.set_ | apply keep_drewN | apply keep_drew | apply keep_alloc | refine keep_far ?_ GW146.out _ | refine keep_far ?_ GW173.out _) | exact HK.out)⟩
              · replace c25 := Bool.eq_false_iff.mpr c25
                subst c25
                have H1 : ((cursor_Cursor_Fail.f t175 t176 t177 5).bind fun bt184 => (some ((wrap64 (t147)), t169, bt184.1, bt184.2.1, bt184.2.2))) = some (r1, r2, r3, r4, r5) := by rw [if_neg (show ¬ (false = true) by decide)] at H; exact H
                clear H
                have H := H1
                clear H1
                replace H := Option.bind_eq_some_iff.mp H
                obtain ⟨⟨t184, t185, t186⟩, A520, H⟩ := H
                replace H : (some ((wrap64 (t147)), t169, t184, t185, t186)) = some (r1, r2, r3, r4, r5) := H
                have A52 := Aside0.mk A520
                clear A520
                simp only [Option.some.injEq, Prod.mk.injEq] at H
                obtain ⟨rfl, rfl, rfl, rfl, rfl⟩ := H
                go_wp2_with (first | ((with_reducible refine gate_callee (f := 65) rfl ?_); refine goesL_ (some 32) rfl rfl Try.func65 (by kernel_rfl) rfl #[.pointer (some ⟨g, 0, none⟩), .int .i64 t154] rfl (by (try simp only [List.map_toArray, List.map_cons, List.map_nil]); first | done | rfl | (simp only [List.length_drop, List.length_take]; rfl)) ?_; (with_reducible refine (cursor_Cursor_Bytes.calls g x1000_17 x1001_17 x1002_17 t154 t169 t170 t171 t172 w0 _ ?side1 ?side2 A22.out).mono ?_); (case side1 => repeat (first | (with_reducible first | exact HI0.out | apply IsS122.alloc | apply IsS122.drewN | apply IsS122.drew | apply IsS122.set_0 | apply IsS122.set_1 | apply IsS122.set_2 | apply IsS122.setn_2 | apply IsS122.sets_2 | refine IsS122.far ?_ NB0_146.out _) | exact HI0.out)); (case side2 => repeat (first | (with_reducible first | exact HB.out | apply below_alloc | apply pw_below_drewN | apply below_drew1 | refine below_set ?_ (IsS122.ge HI0.out) | refine below_set ?_ GE146.out) | exact HB.out)); rintro e w53 ⟨rfl, hi, hb, hk⟩; refine ⟨_, rfl, ?_⟩; have n0_ := Aside0.mk (KeepBut.blk hk (g' := gb146) (o := .cells #[.int .i64 0, .string (⟨#[]⟩ : ByteArray)] 52 (0, 0)) (by (with_reducible repeat (first | refine blk_drewN ?_ _ | refine blk_drew ?_ | refine blk_alloc ?_ _)); exact BK146.out) NB146_0.out (by simp)); have n1_ := Aside0.mk (KeepBut.trans (by repeat (first | (with_reducible first | exact HK.out | apply KeepBut.set_ | apply keep_drewN | apply keep_drew | apply keep_alloc | refine keep_far ?_ GW146.out _) | exact HK.out)) hk (.inl rfl)); have n2_ := Aside0.mk (hb); have n3_ := Aside0.mk (hi); clear BK146; clear HK; clear HB; clear HI0; have BK146 := n0_; have HK := n1_; have HB := n2_; have HI0 := n3_; clear n0_ n1_ n2_ n3_; (try clear hb); (try clear hb2); (try clear hk); (try clear hi); (try simp only [errW_none, errW_some])) | ((with_reducible refine gate_dst (N := 5) rfl ?_); refine box_event ?hg (N := 5) ?hd (cs := #[.int .i64 0, .string (⟨#[]⟩ : ByteArray)]) (t := 52) ?hr ?_; (case hd => rfl); (case hg => rfl); (case hr => first | (go_simp; done) | (go_simp; rfl)); intro gb173 hg w54 hbox hb; have n0_ := Aside0.mk (blk_below (g := gb146) (o := .cells #[.int .i64 0, .string (⟨#[]⟩ : ByteArray)] 52 (0, 0)) (by (with_reducible repeat (first | refine blk_drewN ?_ _ | refine blk_drew ?_ | refine blk_alloc ?_ _)); exact BK146.out) hb); have n1_ := Aside0.mk (IsS122.below (by repeat (first | (with_reducible first | exact HI0.out | apply IsS122.alloc | apply IsS122.drewN | apply IsS122.drew | apply IsS122.set_0 | apply IsS122.set_1 | apply IsS122.set_2 | apply IsS122.setn_2 | apply IsS122.sets_2 | refine IsS122.far ?_ NB0_146.out _) | exact HI0.out)) hb); have n2_ := Aside0.mk (KeepBut.trans (by repeat (first | (with_reducible first | exact HK.out | apply KeepBut.set_ | apply keep_drewN | apply keep_drew | apply keep_alloc | refine keep_far ?_ GW146.out _) | exact HK.out)) (KeepBut.of_below hb g none) (.inl rfl)); have n3_ := Aside0.mk (below_step (by repeat (first | (with_reducible first | exact HB.out | apply below_alloc | apply pw_below_drewN | apply below_drew1 | refine below_set ?_ (IsS122.ge HI0.out) | refine below_set ?_ GE146.out) | exact HB.out)) hb); have n4_ := Aside0.mk (hbox); have n5_ := Aside0.mk ((by rw [hg]; exact (keep_size (w := w) (g := g) (row := none) (by repeat (first | (with_reducible first | exact HK.out | apply KeepBut.set_ | apply keep_drewN | apply keep_drew | apply keep_alloc | refine keep_far ?_ GW146.out _) | exact HK.out))) : w.heap.size ≤ gb173)); have n6_ := Aside0.mk ((Nat.le_trans HW0.out (by rw [hg]; exact (keep_size (w := w) (g := g) (row := none) (by repeat (first | (with_reducible first | exact HK.out | apply KeepBut.set_ | apply keep_drewN | apply keep_drew | apply keep_alloc | refine keep_far ?_ GW146.out _) | exact HK.out))) : w.heap.size ≤ gb173) : w0.heap.size ≤ gb173)); have n7_ := Aside0.mk ((by rw [hg]; exact Nat.ne_of_lt (blk_lt (g := gb146) (o := .cells #[.int .i64 0, .string (⟨#[]⟩ : ByteArray)] 52 (0, 0)) (by (with_reducible repeat (first | refine blk_drewN ?_ _ | refine blk_drew ?_ | refine blk_alloc ?_ _)); exact BK146.out)) : gb146 ≠ gb173)); have n8_ := Aside0.mk ((by rw [hg]; exact Nat.ne_of_gt (blk_lt (g := gb146) (o := .cells #[.int .i64 0, .string (⟨#[]⟩ : ByteArray)] 52 (0, 0)) (by (with_reducible repeat (first | refine blk_drewN ?_ _ | refine blk_drew ?_ | refine blk_alloc ?_ _)); exact BK146.out)) : gb173 ≠ gb146)); have n9_ := Aside0.mk ((by rw [hg]; exact Nat.ne_of_lt (IsS122.lt (show IsS122 w0 _ g t170 t171 t172 from by repeat (first | (with_reducible first | exact HI0.out | apply IsS122.alloc | apply IsS122.drewN | apply IsS122.drew | apply IsS122.set_0 | apply IsS122.set_1 | apply IsS122.set_2 | apply IsS122.setn_2 | apply IsS122.sets_2 | refine IsS122.far ?_ NB0_146.out _) | exact HI0.out))) : g ≠ gb173)); have n10_ := Aside0.mk ((by rw [hg]; exact Nat.ne_of_gt (IsS122.lt (show IsS122 w0 _ g t170 t171 t172 from by repeat (first | (with_reducible first | exact HI0.out | apply IsS122.alloc | apply IsS122.drewN | apply IsS122.drew | apply IsS122.set_0 | apply IsS122.set_1 | apply IsS122.set_2 | apply IsS122.setn_2 | apply IsS122.sets_2 | refine IsS122.far ?_ NB0_146.out _) | exact HI0.out))) : gb173 ≠ g)); clear BK146; clear HI0; clear HK; clear HB; have BK146 := n0_; have HI0 := n1_; have HK := n2_; have HB := n3_; have BK173 := n4_; have GW173 := n5_; have GE173 := n6_; have NB146_173 := n7_; have NB173_146 := n8_; have NB0_173 := n9_; have NB173_0 := n10_; clear n0_ n1_ n2_ n3_ n4_ n5_ n6_ n7_ n8_ n9_ n10_; clear hb hbox hg; have hnb55 := NB173_146.out; have hnc55 := NB146_173.out; have hnb56 := NB173_0.out; have hnc56 := NB0_173.out; have hcz57_0 : w54.cell? ⟨gb173, 0, none⟩ = some (.int .i64 0) := (blk_cell BK173.out 0).trans rfl; have hcz57_1 : w54.cell? ⟨gb173, 1, none⟩ = some (.string (⟨#[]⟩ : ByteArray)) := (blk_cell BK173.out 1).trans rfl; have hfz57_0 := blk_frozen BK173.out 0; have hfz57_1 := blk_frozen BK173.out 1) | ((with_reducible refine gate_callee (f := 65) rfl ?_); refine goesL_ (some 36) rfl rfl Try.func65 (by kernel_rfl) rfl #[.pointer (some ⟨g, 0, none⟩), .int .i64 4] rfl (by (try simp only [List.map_toArray, List.map_cons, List.map_nil]); first | done | rfl | (simp only [List.length_drop, List.length_take]; rfl)) ?_; (with_reducible refine (cursor_Cursor_Bytes.calls g t170 t171 t172 4 t174 t175 t176 t177 w0 _ ?side1 ?side2 A23.out).mono ?_); (case side1 => repeat (first | (with_reducible first | exact HI0.out | apply IsS122.alloc | apply IsS122.drewN | apply IsS122.drew | apply IsS122.set_0 | apply IsS122.set_1 | apply IsS122.set_2 | apply IsS122.setn_2 | apply IsS122.sets_2 | refine IsS122.far ?_ NB0_146.out _ | refine IsS122.far ?_ NB0_173.out _) | exact HI0.out)); (case side2 => repeat (first | (with_reducible first | exact HB.out | apply below_alloc | apply pw_below_drewN | apply below_drew1 | refine below_set ?_ (IsS122.ge HI0.out) | refine below_set ?_ GE146.out | refine below_set ?_ GE173.out) | exact HB.out)); rintro e w58 ⟨rfl, hi, hb, hk⟩; refine ⟨_, rfl, ?_⟩; have n0_ := Aside0.mk (KeepBut.blk hk (g' := gb146) (o := .cells #[.int .i64 0, .string (⟨#[]⟩ : ByteArray)] 52 (0, 0)) (by (with_reducible repeat (first | refine blk_drewN ?_ _ | refine blk_drew ?_ | refine blk_alloc ?_ _)); refine blk_far ?_ NB146_173.out _; (with_reducible repeat (first | refine blk_drewN ?_ _ | refine blk_drew ?_ | refine blk_alloc ?_ _)); refine blk_far ?_ NB146_173.out _; (with_reducible repeat (first | refine blk_drewN ?_ _ | refine blk_drew ?_ | refine blk_alloc ?_ _)); exact BK146.out) NB146_0.out (by simp)); have n1_ := Aside0.mk (KeepBut.blk hk (g' := gb173) (o := .cells #[.int .i64 (wrap64 (t147)), .string t169] 52 (0, 0)) (by (with_reducible repeat (first | refine blk_drewN ?_ _ | refine blk_drew ?_ | refine blk_alloc ?_ _)); refine blk_put (cs := #[.int .i64 (wrap64 (t147)), .string (⟨#[]⟩ : ByteArray)]) ?_ 1 _ rfl; (with_reducible repeat (first | refine blk_drewN ?_ _ | refine blk_drew ?_ | refine blk_alloc ?_ _)); refine blk_put (cs := #[.int .i64 0, .string (⟨#[]⟩ : ByteArray)]) ?_ 0 _ rfl; (with_reducible repeat (first | refine blk_drewN ?_ _ | refine blk_drew ?_ | refine blk_alloc ?_ _)); exact BK173.out) NB173_0.out (by simp)); have n2_ := Aside0.mk (KeepBut.trans (by repeat (first | (with_reducible first | exact HK.out | apply KeepBut.set_ | apply keep_drewN | apply keep_drew | apply keep_alloc | refine keep_far ?_ GW146.out _ | refine keep_far ?_ GW173.out _) | exact HK.out)) hk (.inl rfl)); have n3_ := Aside0.mk (hb); have n4_ := Aside0.mk (hi); clear BK146; clear BK173; clear HK; clear HB; clear HI0; have BK146 := n0_; have BK173 := n1_; have HK := n2_; have HB := n3_; have HI0 := n4_; clear n0_ n1_ n2_ n3_ n4_; (try clear hb); (try clear hb2); (try clear hk); (try clear hi); (try simp only [errW_none, errW_some])) | ((with_reducible refine gate_callee (f := 23) rfl ?_); refine goesL_ (some 37) rfl rfl Try.func23 (by kernel_rfl) rfl #[.string t174] rfl (by (try simp only [List.map_toArray, List.map_cons, List.map_nil]); first | done | rfl | (simp only [List.length_drop, List.length_take]; rfl)) ?_; (with_reducible refine (crc_Get.calls t174 t178 false _ A24.out).mono ?_); rintro e w' ⟨rfl, ⟨nd, rfl⟩⟩; refine ⟨_, rfl, ?_⟩; (try (rw [drewN_self w58]; generalize hq_ : World.drewN w58 _ = w58; have n0_ : Aside0 (w58.heap[gb146]? = some (.cells #[.int .i64 0, .string (⟨#[]⟩ : ByteArray)] 52 (0, 0))) := ⟨by rw [← hq_]; exact (by (with_reducible repeat (first | refine blk_drewN ?_ _ | refine blk_drew ?_ | refine blk_alloc ?_ _)); exact BK146.out)⟩; have n1_ : Aside0 (w58.heap[gb173]? = some (.cells #[.int .i64 (wrap64 (t147)), .string t169] 52 (0, 0))) := ⟨by rw [← hq_]; exact (by (with_reducible repeat (first | refine blk_drewN ?_ _ | refine blk_drew ?_ | refine blk_alloc ?_ _)); exact BK173.out)⟩; have n2_ : Aside0 (IsS122 w0 w58 g t175 t176 t177) := ⟨by rw [← hq_]; exact (by repeat (first | (with_reducible first | exact HI0.out | apply IsS122.alloc | apply IsS122.drewN | apply IsS122.drew | apply IsS122.set_0 | apply IsS122.set_1 | apply IsS122.set_2 | apply IsS122.setn_2 | apply IsS122.sets_2 | refine IsS122.far ?_ NB0_146.out _ | refine IsS122.far ?_ NB0_173.out _) | exact HI0.out))⟩; have n3_ : Aside0 (KeepBut w w58 g none) := ⟨by rw [← hq_]; exact (by repeat (first | (with_reducible first | exact HK.out | apply KeepBut.set_ | apply keep_drewN | apply keep_drew | apply keep_alloc | refine keep_far ?_ GW146.out _ | refine keep_far ?_ GW173.out _) | exact HK.out))⟩; have n4_ : Aside0 (Below w0.heap.size w0 w58) := ⟨by rw [← hq_]; exact (by repeat (first | (with_reducible first | exact HB.out | apply below_alloc | apply pw_below_drewN | apply below_drew1 | refine below_set ?_ (IsS122.ge HI0.out) | refine below_set ?_ GE146.out | refine below_set ?_ GE173.out) | exact HB.out))⟩; clear BK146 BK173 HI0 HK HB hq_; have BK146 := n0_; have BK173 := n1_; have HI0 := n2_; have HK := n3_; have HB := n4_; clear n0_ n1_ n2_ n3_ n4_))) | ((with_reducible refine gate_callee (f := 52) rfl ?_); refine goesL_ (some 50) rfl rfl Try.func52 (by kernel_rfl) rfl #[.pointer (some ⟨g, 0, none⟩), .int .i64 5] rfl (by (try simp only [List.map_toArray, List.map_cons, List.map_nil]); first | done | rfl | (simp only [List.length_drop, List.length_take]; rfl)) ?_; (with_reducible refine (cursor_Cursor_Fail.calls g t175 t176 t177 5 t184 t185 t186 w0 _ ?side1 ?side2 A52.out).mono ?_); (case side1 => repeat (first | (with_reducible first | exact HI0.out | apply IsS122.alloc | apply IsS122.drewN | apply IsS122.drew | apply IsS122.set_0 | apply IsS122.set_1 | apply IsS122.set_2 | apply IsS122.setn_2 | apply IsS122.sets_2 | refine IsS122.far ?_ NB0_146.out _ | refine IsS122.far ?_ NB0_173.out _) | exact HI0.out)); (case side2 => repeat (first | (with_reducible first | exact HB.out | apply below_alloc | apply pw_below_drewN | apply below_drew1 | refine below_set ?_ (IsS122.ge HI0.out) | refine below_set ?_ GE146.out | refine below_set ?_ GE173.out) | exact HB.out)); rintro e w59 ⟨rfl, hi, hb, hk⟩; refine ⟨_, rfl, ?_⟩; have n0_ := Aside0.mk (KeepBut.blk hk (g' := gb146) (o := .cells #[.int .i64 0, .string (⟨#[]⟩ : ByteArray)] 52 (0, 0)) (by (with_reducible repeat (first | refine blk_drewN ?_ _ | refine blk_drew ?_ | refine blk_alloc ?_ _)); exact BK146.out) NB146_0.out (by simp)); have n1_ := Aside0.mk (KeepBut.blk hk (g' := gb173) (o := .cells #[.int .i64 (wrap64 (t147)), .string t169] 52 (0, 0)) (by (with_reducible repeat (first | refine blk_drewN ?_ _ | refine blk_drew ?_ | refine blk_alloc ?_ _)); exact BK173.out) NB173_0.out (by simp)); have n2_ := Aside0.mk (KeepBut.trans (by repeat (first | (with_reducible first | exact HK.out | apply KeepBut.set_ | apply keep_drewN | apply keep_drew | apply keep_alloc | refine keep_far ?_ GW146.out _ | refine keep_far ?_ GW173.out _) | exact HK.out)) hk (.inl rfl)); have n3_ := Aside0.mk (hb); have n4_ := Aside0.mk (hi); clear BK146; clear BK173; clear HK; clear HB; clear HI0; have BK146 := n0_; have BK173 := n1_; have HK := n2_; have HB := n3_; have HI0 := n4_; clear n0_ n1_ n2_ n3_ n4_; (try clear hb); (try clear hb2); (try clear hk); (try clear hi); (try simp only [errW_none, errW_some]); have hcz60_0 : w59.cell? ⟨gb173, 0, none⟩ = some (.int .i64 (wrap64 (t147))) := (blk_cell BK173.out 0).trans rfl; have hcz60_1 : w59.cell? ⟨gb173, 1, none⟩ = some (.string t169) := (blk_cell BK173.out 1).trans rfl; have hfz60_0 := blk_frozen BK173.out 0; have hfz60_1 := blk_frozen BK173.out 1; have hnb61 := NB146_0.out; have hnc61 := NB0_146.out; have hcz62_0 : w59.cell? ⟨gb146, 0, none⟩ = some (.int .i64 0) := (blk_cell BK146.out 0).trans rfl; have hcz62_1 : w59.cell? ⟨gb146, 1, none⟩ = some (.string (⟨#[]⟩ : ByteArray)) := (blk_cell BK146.out 1).trans rfl; have hfz62_0 := blk_frozen BK146.out 0; have hfz62_1 := blk_frozen BK146.out 1))
                refine bodyPost_ret (results_cell_row rfl _ _ gb146 52 #[.int .i64 (wrap64 (t147)), .string t169] (0, 0) _ rfl (by (with_reducible repeat (first | refine blk_drewN ?_ _ | refine blk_drew ?_ | refine blk_alloc ?_ _)); refine blk_put (cs := #[.int .i64 (wrap64 (t147)), .string (⟨#[]⟩ : ByteArray)]) ?_ 1 _ rfl; (with_reducible repeat (first | refine blk_drewN ?_ _ | refine blk_drew ?_ | refine blk_alloc ?_ _)); refine blk_put (cs := #[.int .i64 0, .string (⟨#[]⟩ : ByteArray)]) ?_ 0 _ rfl; (with_reducible repeat (first | refine blk_drewN ?_ _ | refine blk_drew ?_ | refine blk_alloc ?_ _)); exact BK146.out) Try.underlying52 rfl (by kernel_rfl)) rfl ?_
                exact ⟨by first | rfl | (simp [errW_none, errW_some] <;> rfl) | (simp [*, errW_none, errW_some] <;> rfl), by repeat (first | (with_reducible first | exact HI0.out | apply IsS122.alloc | apply IsS122.drewN | apply IsS122.drew | apply IsS122.set_0 | apply IsS122.set_1 | apply IsS122.set_2 | apply IsS122.setn_2 | apply IsS122.sets_2 | refine IsS122.far ?_ NB0_146.out _ | refine IsS122.far ?_ NB0_173.out _) | exact HI0.out), by repeat (first | (with_reducible first | exact HB.out | apply below_alloc | apply pw_below_drewN | apply below_drew1 | refine below_set ?_ (IsS122.ge HI0.out) | refine below_set ?_ GE146.out | refine below_set ?_ GE173.out) | exact HB.out), by repeat (first | (with_reducible first | exact HK.out | apply KeepBut.set_ | apply keep_drewN | apply keep_drew | apply keep_alloc | refine keep_far ?_ GW146.out _ | refine keep_far ?_ GW173.out _) | exact HK.out)⟩

/-! ### frame_Get: function 32 -/
mutual
def frame_Get.j0 : Nat → ByteArray → Bool → Option (Int × (List (S52)) × Int)
  | 0, _, _ => none
  | k + 1, x7, x25 => if x25 = true then (some (0, ([] : List (S52)), 6)) else ((cursor_New.f x7).bind fun bt189 => ((cursor_Cursor_Byte.f bt189.1 bt189.2.1 bt189.2.2).bind fun bt193 => (if (wrap64 (bt193.1)) = 0 then ((cursor_Cursor_Fail.f bt193.2.1 bt193.2.2.1 bt193.2.2.2 7).bind fun bt197 => (frame_Get.j1 k (wrap64 (bt193.1)) bt197.1 bt197.2.1 bt197.2.2)) else (frame_Get.j1 k (wrap64 (bt193.1)) bt193.2.1 bt193.2.2.1 bt193.2.2.2))))
def frame_Get.j1 : Nat → Int → ByteArray → Int → Option Int → Option (Int × (List (S52)) × Int)
  | 0, _, _, _, _ => none
  | k + 1, x10, x193000, x193001, x193002 => frame_Get.l0 k x10 ([] : List (S52)) x193000 x193001 x193002
def frame_Get.l0 : Nat → Int → List (S52) → ByteArray → Int → Option Int → Option (Int × (List (S52)) × Int)
  | 0, _, _, _, _, _ => none
  | k + 1, x10, x11, x193000, x193001, x193002 => (cursor_Cursor_Err.f x193000 x193001 x193002).bind fun bt200 => (if bt200.1 = 0 then ((cursor_Cursor_Left.f bt200.2.1 bt200.2.2.1 bt200.2.2.2).bind fun bt204 => (frame_Get.j3 k x10 x11 (decide (bt204.1 > 0)) bt204.2.1 bt204.2.2.1 bt204.2.2.2)) else (frame_Get.j3 k x10 x11 false bt200.2.1 bt200.2.2.1 bt200.2.2.2))
def frame_Get.j3 : Nat → Int → List (S52) → Bool → ByteArray → Int → Option Int → Option (Int × (List (S52)) × Int)
  | 0, _, _, _, _, _, _ => none
  | k + 1, x10, x11, x42, x193000, x193001, x193002 => if x42 = true then (if (x11.length : Int) = 8 then (some (0, ([] : List (S52)), 8)) else ((frame_section.f k x193000 x193001 x193002).bind fun bt208 => (if x11.length < 5864062014805 then (frame_Get.l0 k x10 (x11 ++ [(⟨bt208.1, bt208.2.1⟩ : S52)]) bt208.2.2.1 bt208.2.2.2.1 bt208.2.2.2.2) else (none)))) else ((cursor_Cursor_Err.f x193000 x193001 x193002).bind fun bt216 => (if bt216.1 = 0 then (some (x10, x11, 0)) else (some (0, ([] : List (S52)), bt216.1))))
end
def frame_Get.f (k : Nat) (a0 : ByteArray) (a1 : ByteArray) : Option (Int × (List (S52)) × Int) := (strings_CutPrefix.f a1 a0).bind fun bt187 => (if (a0.size : Int) = 4 then (frame_Get.j0 k bt187.1 (!bt187.2)) else (frame_Get.j0 k bt187.1 true))
theorem frame_Get.mono_l : ∀ k, (∀ y0 y1, LeO (frame_Get.j0 k y0 y1) (frame_Get.j0 (k + 1) y0 y1)) ∧ (∀ y0 y1 y2 y3, LeO (frame_Get.j1 k y0 y1 y2 y3) (frame_Get.j1 (k + 1) y0 y1 y2 y3)) ∧ (∀ y0 y1 y2 y3 y4, LeO (frame_Get.l0 k y0 y1 y2 y3 y4) (frame_Get.l0 (k + 1) y0 y1 y2 y3 y4)) ∧ (∀ y0 y1 y2 y3 y4 y5, LeO (frame_Get.j3 k y0 y1 y2 y3 y4 y5) (frame_Get.j3 (k + 1) y0 y1 y2 y3 y4 y5))
  | 0 => ⟨fun _ _ r h => by simp [frame_Get.j0] at h, fun _ _ _ _ r h => by simp [frame_Get.j1] at h, fun _ _ _ _ _ r h => by simp [frame_Get.l0] at h, fun _ _ _ _ _ _ r h => by simp [frame_Get.j3] at h⟩
  | k + 1 => by
    obtain ⟨ih0, ih1, ih2, ih3⟩ := frame_Get.mono_l k
    refine ⟨?_, ?_, ?_, ?_⟩
    · intro y0 y1
      unfold frame_Get.j0
      repeat' first
      | (with_reducible exact ih0 _ _)
      | (with_reducible exact ih1 _ _ _ _)
      | (with_reducible exact ih2 _ _ _ _ _)
      | (with_reducible exact ih3 _ _ _ _ _ _)
      | (with_reducible exact frame_section.mono _ _ _ _)
      | (with_reducible exact LeO.refl _)
      | (with_reducible exact LeO.none _)
      | (with_reducible refine LeO.ite ?_ ?_)
      | (with_reducible refine LeO.bind ?_ (fun _ => ?_))
      | exact ih0 _ _
      | exact ih1 _ _ _ _
      | exact ih2 _ _ _ _ _
      | exact ih3 _ _ _ _ _ _
      | exact frame_section.mono _ _ _ _
      | exact LeO.none _
      | refine LeO.ite ?_ ?_
      | refine LeO.bind ?_ (fun _ => ?_)
    · intro y0 y1 y2 y3
      unfold frame_Get.j1
      repeat' first
      | (with_reducible exact ih0 _ _)
      | (with_reducible exact ih1 _ _ _ _)
      | (with_reducible exact ih2 _ _ _ _ _)
      | (with_reducible exact ih3 _ _ _ _ _ _)
      | (with_reducible exact frame_section.mono _ _ _ _)
      | (with_reducible exact LeO.refl _)
      | (with_reducible exact LeO.none _)
      | (with_reducible refine LeO.ite ?_ ?_)
      | (with_reducible refine LeO.bind ?_ (fun _ => ?_))
      | exact ih0 _ _
      | exact ih1 _ _ _ _
      | exact ih2 _ _ _ _ _
      | exact ih3 _ _ _ _ _ _
      | exact frame_section.mono _ _ _ _
      | exact LeO.none _
      | refine LeO.ite ?_ ?_
      | refine LeO.bind ?_ (fun _ => ?_)
    · intro y0 y1 y2 y3 y4
      unfold frame_Get.l0
      repeat' first
      | (with_reducible exact ih0 _ _)
      | (with_reducible exact ih1 _ _ _ _)
      | (with_reducible exact ih2 _ _ _ _ _)
      | (with_reducible exact ih3 _ _ _ _ _ _)
      | (with_reducible exact frame_section.mono _ _ _ _)
      | (with_reducible exact LeO.refl _)
      | (with_reducible exact LeO.none _)
      | (with_reducible refine LeO.ite ?_ ?_)
      | (with_reducible refine LeO.bind ?_ (fun _ => ?_))
      | exact ih0 _ _
      | exact ih1 _ _ _ _
      | exact ih2 _ _ _ _ _
      | exact ih3 _ _ _ _ _ _
      | exact frame_section.mono _ _ _ _
      | exact LeO.none _
      | refine LeO.ite ?_ ?_
      | refine LeO.bind ?_ (fun _ => ?_)
    · intro y0 y1 y2 y3 y4 y5
      unfold frame_Get.j3
      repeat' first
      | (with_reducible exact ih0 _ _)
      | (with_reducible exact ih1 _ _ _ _)
      | (with_reducible exact ih2 _ _ _ _ _)
      | (with_reducible exact ih3 _ _ _ _ _ _)
      | (with_reducible exact frame_section.mono _ _ _ _)
      | (with_reducible exact LeO.refl _)
      | (with_reducible exact LeO.none _)
      | (with_reducible refine LeO.ite ?_ ?_)
      | (with_reducible refine LeO.bind ?_ (fun _ => ?_))
      | exact ih0 _ _
      | exact ih1 _ _ _ _
      | exact ih2 _ _ _ _ _
      | exact ih3 _ _ _ _ _ _
      | exact frame_section.mono _ _ _ _
      | exact LeO.none _
      | refine LeO.ite ?_ ?_
      | refine LeO.bind ?_ (fun _ => ?_)
theorem frame_Get.mono : ∀ a0 a1 k, LeO (frame_Get.f k a0 a1) (frame_Get.f (k + 1) a0 a1) := by
  intro a0 a1 k
  obtain ⟨ih0, ih1, ih2, ih3⟩ := frame_Get.mono_l k
  unfold frame_Get.f
  repeat' first
      | (with_reducible exact ih0 _ _)
      | (with_reducible exact ih1 _ _ _ _)
      | (with_reducible exact ih2 _ _ _ _ _)
      | (with_reducible exact ih3 _ _ _ _ _ _)
      | (with_reducible exact frame_section.mono _ _ _ _)
      | (with_reducible exact LeO.refl _)
      | (with_reducible exact LeO.none _)
      | (with_reducible refine LeO.ite ?_ ?_)
      | (with_reducible refine LeO.bind ?_ (fun _ => ?_))
      | exact ih0 _ _
      | exact ih1 _ _ _ _
      | exact ih2 _ _ _ _ _
      | exact ih3 _ _ _ _ _ _
      | exact frame_section.mono _ _ _ _
      | exact LeO.none _
      | refine LeO.ite ?_ ?_
      | refine LeO.bind ?_ (fun _ => ?_)
set_option maxHeartbeats 8000000 in
set_option maxRecDepth 100000 in
theorem frame_Get.calls (k : Nat) (a0 : ByteArray) (a1 : ByteArray) (r1 : Int) (r2 : List (S52)) (r3 : Int) (w : World) (h : frame_Get.f k a0 a1 = some (r1, r2, r3)) :
    Calls Try.prog 32 #[.string a0, .string a1] w fun e w' => ∃ v1_ : Value, e = .returned (.tuple #[.int .i64 r1, v1_, .int .i64 r3]) ∧ Kd.R k52 52 w' w.heap.size (fun _ => True) v1_ r2 ∧ Below w.heap.size w w' := by
  have HB := Aside0.mk (Below.refl w.heap.size w)
  have H : ((strings_CutPrefix.f a1 a0).bind fun bt187 => (if (a0.size : Int) = 4 then (frame_Get.j0 k bt187.1 (!bt187.2)) else (frame_Get.j0 k bt187.1 true))) = some (r1, r2, r3) := h
  clear h
  replace H := Option.bind_eq_some_iff.mp H
  obtain ⟨⟨t187, t188⟩, A30, H⟩ := H
  replace H : (if (a0.size : Int) = 4 then (frame_Get.j0 k t187 (!t188)) else (frame_Get.j0 k t187 true)) = some (r1, r2, r3) := H
  have A3 := Aside0.mk A30
  clear A30
  have HC4 := Aside0.mk H
  clear H
  go_enter Try.func32, Try.ntmps32
  go_upto_region 2 with (first | ((with_reducible refine gate_callee (f := 49) rfl ?_); refine goesL_ (some 16) rfl rfl Try.func49 (by kernel_rfl) rfl #[.string a1, .string a0] rfl (by (try simp only [List.map_toArray, List.map_cons, List.map_nil]); first | done | rfl | (simp only [List.length_drop, List.length_take]; rfl)) ?_; (with_reducible refine (strings_CutPrefix.calls a1 a0 t187 t188 _ A3.out).mono ?_); rintro e w' ⟨rfl, ⟨nd, rfl⟩⟩; refine ⟨_, rfl, ?_⟩))
  (try simp only [Act.put, List.setIfInBounds_toArray, List.set_cons_zero, List.set_cons_succ])
  go_cut [25] (fun v25 wc => ∃ (kq : Nat) (x25_3 : Bool), v25 = .bool x25_3 ∧ Aside0 (frame_Get.j0 kq t187 x25_3 = some (r1, r2, r3)) ∧ Aside0 (kq ≤ k) ∧ Aside0 (Below w.heap.size w wc))
  case first =>
    have H := HC4.out
    clear HC4
    by_cases c5 : (a0.size : Int) = 4
    · rw [if_pos c5] at H
      have c5b0 : ((a0.size : Int) == 4) = true := beq_iff_eq.mpr c5
      have c5b1 : ((a0.size : Int) != 4) = false := bne_eq_false_iff_eq.mpr c5
      clear c5
      (first | rw [c5b0] | (simp only [i64_w, i32_w]; rw [c5b0]) | skip)
      have H' := Aside0.mk H
      clear H
      go_wp2
      go_meet
      case rel => exact ⟨_, (!t188), (by first | rfl | (simp; done) | (simp [*]; done)), H', ⟨by first | omega | exact Nat.le_refl _⟩, ⟨by repeat (first | (with_reducible first | exact HB.out | apply below_alloc | apply pw_below_drewN | apply below_drew1) | exact HB.out)⟩⟩
    · rw [if_neg c5] at H
      have c5b0 : ((a0.size : Int) == 4) = false := beq_eq_false_iff_ne.mpr c5
      have c5b1 : ((a0.size : Int) != 4) = true := bne_iff_ne.mpr c5
      (first | rw [c5b0] | (simp only [i64_w, i32_w]; rw [c5b0]) | skip)
      have H' := Aside0.mk H
      clear H
      go_wp2
      go_meet
      case rel => exact ⟨_, (true), (by first | rfl | (simp; done) | (simp [*]; done)), H', ⟨by first | omega | exact Nat.le_refl _⟩, ⟨by repeat (first | (with_reducible first | exact HB.out | apply below_alloc | apply pw_below_drewN | apply below_drew1) | exact HB.out)⟩⟩
  case rest =>
    clear HC4
    try clear p2
    try clear c3
    try clear c4
    try clear c5
    try clear c5b0
    try clear c5b1
    obtain ⟨kq, x25_3, rfl, HA, HJ3, HB⟩ := hcut
    cases kq with
    | zero => exact absurd HA.out (by simp [frame_Get.j0])
    | succ kj3 =>
      have H := HA.out
      clear HA
      simp only [frame_Get.j0] at H
      by_cases c6 : x25_3 = true
      · subst c6
        have H1 : (some (0, ([] : List (S52)), 6)) = some (r1, r2, r3) := by rw [if_pos rfl] at H; exact H
        clear H
        have H := H1
        clear H1
        simp only [Option.some.injEq, Prod.mk.injEq] at H
        obtain ⟨rfl, rfl, rfl⟩ := H
        go_wp2
        go_ret3
        exact ⟨_, by first | rfl | (simp [errW_none, errW_some] <;> rfl) | (simp [*, errW_none, errW_some] <;> rfl), by first | exact Kd.R_nil _ _ _ _ _ | exact Kd.N_nil _ _ _ _ _ | exact Kd.V_nil _ _ _ _ _ | exact Kd.Q_nil _ _ _ _ _ | exact Kd.S_nil _ _ _ _ _, by repeat (first | (with_reducible first | exact HB.out | apply below_alloc | apply pw_below_drewN | apply below_drew1) | exact HB.out)⟩
      · replace c6 := Bool.eq_false_iff.mpr c6
        subst c6
        have H1 : ((cursor_New.f t187).bind fun bt189 => ((cursor_Cursor_Byte.f bt189.1 bt189.2.1 bt189.2.2).bind fun bt193 => (if (wrap64 (bt193.1)) = 0 then ((cursor_Cursor_Fail.f bt193.2.1 bt193.2.2.1 bt193.2.2.2 7).bind fun bt197 => (frame_Get.j1 kj3 (wrap64 (bt193.1)) bt197.1 bt197.2.1 bt197.2.2)) else (frame_Get.j1 kj3 (wrap64 (bt193.1)) bt193.2.1 bt193.2.2.1 bt193.2.2.2)))) = some (r1, r2, r3) := by rw [if_neg (show ¬ (false = true) by decide)] at H; exact H
        clear H
        have H := H1
        clear H1
        replace H := Option.bind_eq_some_iff.mp H
        obtain ⟨⟨t189, t190, t191⟩, A70, H⟩ := H
        replace H : ((cursor_Cursor_Byte.f t189 t190 t191).bind fun bt193 => (if (wrap64 (bt193.1)) = 0 then ((cursor_Cursor_Fail.f bt193.2.1 bt193.2.2.1 bt193.2.2.2 7).bind fun bt197 => (frame_Get.j1 kj3 (wrap64 (bt193.1)) bt197.1 bt197.2.1 bt197.2.2)) else (frame_Get.j1 kj3 (wrap64 (bt193.1)) bt193.2.1 bt193.2.2.1 bt193.2.2.2))) = some (r1, r2, r3) := H
        have A7 := Aside0.mk A70
        clear A70
        replace H := Option.bind_eq_some_iff.mp H
        obtain ⟨⟨t193, t194, t195, t196⟩, A80, H⟩ := H
        replace H : (if (wrap64 (t193)) = 0 then ((cursor_Cursor_Fail.f t194 t195 t196 7).bind fun bt197 => (frame_Get.j1 kj3 (wrap64 (t193)) bt197.1 bt197.2.1 bt197.2.2)) else (frame_Get.j1 kj3 (wrap64 (t193)) t194 t195 t196)) = some (r1, r2, r3) := H
        have A8 := Aside0.mk A80
        clear A80
        have HC9 := Aside0.mk H
        clear H
        go_upto_if 32 with (first | ((with_reducible refine gate_callee (f := 50) rfl ?_); refine goesL_ (some 27) rfl rfl Try.func50 (by kernel_rfl) rfl #[.string t187] rfl (by (try simp only [List.map_toArray, List.map_cons, List.map_nil]); first | done | rfl | (simp only [List.length_drop, List.length_take]; rfl)) ?_; (with_reducible refine (cursor_New.calls t187 t189 t190 t191 w _ ?side1 A7.out).mono ?_); (case side1 => repeat (first | (with_reducible first | exact HB.out | apply below_alloc | apply pw_below_drewN | apply below_drew1) | exact HB.out)); rintro e w10 ⟨g192, rfl, hi, hb, hb2⟩; refine ⟨_, rfl, ?_⟩; have n0_ := Aside0.mk (hb); have n1_ := Aside0.mk (hi); clear HB; have HB := n0_; have HI192 := n1_; clear n0_ n1_; (try clear hb); (try clear hb2); (try clear hk); (try clear hi); (try simp only [errW_none, errW_some])) | ((with_reducible refine gate_callee (f := 51) rfl ?_); refine goesL_ (some 29) rfl rfl Try.func51 (by kernel_rfl) rfl #[.pointer (some ⟨g192, 0, none⟩)] rfl (by (try simp only [List.map_toArray, List.map_cons, List.map_nil]); first | done | rfl | (simp only [List.length_drop, List.length_take]; rfl)) ?_; (with_reducible refine (cursor_Cursor_Byte.calls g192 t189 t190 t191 t193 t194 t195 t196 w _ ?side1 ?side2 A8.out).mono ?_); (case side1 => repeat (first | (with_reducible first | exact HI192.out | apply IsS122.alloc | apply IsS122.drewN | apply IsS122.drew | apply IsS122.set_0 | apply IsS122.set_1 | apply IsS122.set_2 | apply IsS122.setn_2 | apply IsS122.sets_2) | exact HI192.out)); (case side2 => repeat (first | (with_reducible first | exact HB.out | apply below_alloc | apply pw_below_drewN | apply below_drew1 | refine below_set ?_ (IsS122.ge HI192.out)) | exact HB.out)); rintro e w11 ⟨rfl, hi, hb, hk⟩; refine ⟨_, rfl, ?_⟩; have n0_ := Aside0.mk (hb); have n1_ := Aside0.mk (hi); clear HB; clear HI192; have HB := n0_; have HI192 := n1_; clear n0_ n1_; (try clear hb); (try clear hb2); (try clear hk); (try clear hi); (try simp only [errW_none, errW_some])))
        (try simp only [Act.put, List.setIfInBounds_toArray, List.set_cons_zero, List.set_cons_succ])
        go_cut [] (fun wc => ∃ (kq : Nat) (x193000_8 : ByteArray) (x193001_8 : Int) (x193002_8 : Option Int), Aside0 (frame_Get.j1 kq (wrap64 (t193)) x193000_8 x193001_8 x193002_8 = some (r1, r2, r3)) ∧ Aside0 (kq ≤ kj3) ∧ Aside0 (IsS122 w wc g192 x193000_8 x193001_8 x193002_8) ∧ Aside0 (Below w.heap.size w wc))
        case first =>
          have H := HC9.out
          clear HC9
          by_cases c12 : (wrap64 (t193)) = 0
          · rw [if_pos c12] at H
            have c12b0 : ((wrap64 (t193)) == 0) = true := beq_iff_eq.mpr c12
            have c12b1 : ((wrap64 (t193)) != 0) = false := bne_eq_false_iff_eq.mpr c12
            clear c12
            (first | rw [c12b0] | (simp only [i64_w, i32_w]; rw [c12b0]) | skip)
            replace H := Option.bind_eq_some_iff.mp H
            obtain ⟨⟨t197, t198, t199⟩, A130, H⟩ := H
            replace H : (frame_Get.j1 kj3 (wrap64 (t193)) t197 t198 t199) = some (r1, r2, r3) := H
            have A13 := Aside0.mk A130
            clear A130
            have H' := Aside0.mk H
            clear H
            go_wp2_with (first | ((with_reducible refine gate_callee (f := 52) rfl ?_); refine goesL_ (some 34) rfl rfl Try.func52 (by kernel_rfl) rfl #[.pointer (some ⟨g192, 0, none⟩), .int .i64 7] rfl (by (try simp only [List.map_toArray, List.map_cons, List.map_nil]); first | done | rfl | (simp only [List.length_drop, List.length_take]; rfl)) ?_; (with_reducible refine (cursor_Cursor_Fail.calls g192 t194 t195 t196 7 t197 t198 t199 w _ ?side1 ?side2 A13.out).mono ?_); (case side1 => repeat (first | (with_reducible first | exact HI192.out | apply IsS122.alloc | apply IsS122.drewN | apply IsS122.drew | apply IsS122.set_0 | apply IsS122.set_1 | apply IsS122.set_2 | apply IsS122.setn_2 | apply IsS122.sets_2) | exact HI192.out)); (case side2 => repeat (first | (with_reducible first | exact HB.out | apply below_alloc | apply pw_below_drewN | apply below_drew1 | refine below_set ?_ (IsS122.ge HI192.out)) | exact HB.out)); rintro e w14 ⟨rfl, hi, hb, hk⟩; refine ⟨_, rfl, ?_⟩; have n0_ := Aside0.mk (hb); have n1_ := Aside0.mk (hi); clear HB; clear HI192; have HB := n0_; have HI192 := n1_; clear n0_ n1_; (try clear hb); (try clear hb2); (try clear hk); (try clear hi); (try simp only [errW_none, errW_some])))
            go_meet
            case rel => exact ⟨_, (t197), (t198), (t199), H', ⟨by have := HJ3.out; first | omega | exact Nat.le_refl _⟩, ⟨by repeat (first | (with_reducible first | exact HI192.out | apply IsS122.alloc | apply IsS122.drewN | apply IsS122.drew | apply IsS122.set_0 | apply IsS122.set_1 | apply IsS122.set_2 | apply IsS122.setn_2 | apply IsS122.sets_2) | exact HI192.out)⟩, ⟨by repeat (first | (with_reducible first | exact HB.out | apply below_alloc | apply pw_below_drewN | apply below_drew1 | refine below_set ?_ (IsS122.ge HI192.out)) | exact HB.out)⟩⟩
          · rw [if_neg c12] at H
            have c12b0 : ((wrap64 (t193)) == 0) = false := beq_eq_false_iff_ne.mpr c12
            have c12b1 : ((wrap64 (t193)) != 0) = true := bne_iff_ne.mpr c12
            (first | rw [c12b0] | (simp only [i64_w, i32_w]; rw [c12b0]) | skip)
            have H' := Aside0.mk H
            clear H
            go_wp2
            go_meet
            case rel => exact ⟨_, (t194), (t195), (t196), H', ⟨by have := HJ3.out; first | omega | exact Nat.le_refl _⟩, ⟨by repeat (first | (with_reducible first | exact HI192.out | apply IsS122.alloc | apply IsS122.drewN | apply IsS122.drew | apply IsS122.set_0 | apply IsS122.set_1 | apply IsS122.set_2 | apply IsS122.setn_2 | apply IsS122.sets_2) | exact HI192.out)⟩, ⟨by repeat (first | (with_reducible first | exact HB.out | apply below_alloc | apply pw_below_drewN | apply below_drew1 | refine below_set ?_ (IsS122.ge HI192.out)) | exact HB.out)⟩⟩
        case rest =>
          clear HC9
          try clear c1
          try clear p2
          try clear c3
          try clear c4
          try clear c5
          try clear c5b0
          try clear c5b1
          try clear c6
          try clear p6
          try clear c12
          try clear c12b0
          try clear c12b1
          try clear p2
          obtain ⟨kq, x193000_8, x193001_8, x193002_8, HA, HJ8, HI192, HB⟩ := hcut
          cases kq with
          | zero => exact absurd HA.out (by simp [frame_Get.j1])
          | succ kj8 =>
            have H := HA.out
            clear HA
            simp only [frame_Get.j1] at H
            have H' := Aside0.mk H
            clear H
            go_wp2
            go_loopg [11] kj8 (fun kq v11 w' => ∃ (x11_3 : List (S52)) (x193000_3 : ByteArray) (x193001_3 : Int) (x193002_3 : Option Int), Aside0 (frame_Get.l0 kq (wrap64 (t193)) x11_3 x193000_3 x193001_3 x193002_3 = some (r1, r2, r3)) ∧ Aside0 (kq ≤ kj8) ∧ Aside0 (Kd.R k52 52 w' w.heap.size (fun _ => True) v11 x11_3) ∧ Aside0 (IsS122 w w' g192 x193000_3 x193001_3 x193002_3) ∧ Aside0 (Below w.heap.size w w'))
            case atStart => exact ⟨(([] : List (S52))), (x193000_8), (x193001_8), (x193002_8), H', ⟨Nat.le_refl _⟩, ⟨by first | exact Kd.R_nil _ _ _ _ _ | exact Kd.N_nil _ _ _ _ _ | exact Kd.V_nil _ _ _ _ _ | exact Kd.Q_nil _ _ _ _ _ | exact Kd.S_nil _ _ _ _ _⟩, ⟨by repeat (first | (with_reducible first | exact HI192.out | apply IsS122.alloc | apply IsS122.drewN | apply IsS122.drew | apply IsS122.set_0 | apply IsS122.set_1 | apply IsS122.set_2 | apply IsS122.setn_2 | apply IsS122.sets_2) | exact HI192.out)⟩, ⟨by repeat (first | (with_reducible first | exact HB.out | apply below_alloc | apply pw_below_drewN | apply below_drew1 | refine below_set ?_ (IsS122.ge HI192.out)) | exact HB.out)⟩⟩
            case round =>
              clear H'
              try clear c1
              try clear p2
              try clear c3
              try clear c4
              try clear c5
              try clear c5b0
              try clear c5b1
              try clear c6
              try clear p6
              try clear c12
              try clear c12b0
              try clear c12b1
              try clear p2
              try clear p6
              obtain ⟨x11_3, x193000_3, x193001_3, x193002_3, HA, HK3, HO_11, HI192, HB⟩ := hrel
              cases gk with
              | zero => exact absurd HA.out (by simp [frame_Get.l0])
              | succ k3 =>
                have H := HA.out
                clear HA
                simp only [frame_Get.l0] at H
                have HC15 := Aside0.mk H
                clear H
                go_upto_region 9 with (fail)
                go_cut [42] (fun v42 wc => ∃ (kq : Nat) (x42_14 : Bool) (x193000_14 : ByteArray) (x193001_14 : Int) (x193002_14 : Option Int), v42 = .bool x42_14 ∧ Aside0 (frame_Get.j3 kq (wrap64 (t193)) x11_3 x42_14 x193000_14 x193001_14 x193002_14 = some (r1, r2, r3)) ∧ Aside0 (kq ≤ k3) ∧ Aside0 (Kd.R k52 52 wc w.heap.size (fun _ => True) u11 x11_3) ∧ Aside0 (IsS122 w wc g192 x193000_14 x193001_14 x193002_14) ∧ Aside0 (Below w.heap.size w wc))
                case first =>
                  have H := HC15.out
                  clear HC15
                  replace H := Option.bind_eq_some_iff.mp H
                  obtain ⟨⟨t200, t201, t202, t203⟩, A160, H⟩ := H
                  replace H : (if t200 = 0 then ((cursor_Cursor_Left.f t201 t202 t203).bind fun bt204 => (frame_Get.j3 k3 (wrap64 (t193)) x11_3 (decide (bt204.1 > 0)) bt204.2.1 bt204.2.2.1 bt204.2.2.2)) else (frame_Get.j3 k3 (wrap64 (t193)) x11_3 false t201 t202 t203)) = some (r1, r2, r3) := H
                  have A16 := Aside0.mk A160
                  clear A160
                  by_cases c17 : t200 = 0
                  · rw [if_pos c17] at H
                    have c17b0 : (t200 == 0) = true := beq_iff_eq.mpr c17
                    have c17b1 : (t200 != 0) = false := bne_eq_false_iff_eq.mpr c17
                    clear c17
                    (first | rw [c17b0] | (simp only [i64_w, i32_w]; rw [c17b0]) | skip)
                    replace H := Option.bind_eq_some_iff.mp H
                    obtain ⟨⟨t204, t205, t206, t207⟩, A180, H⟩ := H
                    replace H : (frame_Get.j3 k3 (wrap64 (t193)) x11_3 (decide (t204 > 0)) t205 t206 t207) = some (r1, r2, r3) := H
                    have A18 := Aside0.mk A180
                    clear A180
                    have H' := Aside0.mk H
                    clear H
                    go_wp2_with (first | ((with_reducible refine gate_callee (f := 53) rfl ?_); refine goesL_ (some 36) rfl rfl Try.func53 (by kernel_rfl) rfl #[.pointer (some ⟨g192, 0, none⟩)] rfl (by (try simp only [List.map_toArray, List.map_cons, List.map_nil]); first | done | rfl | (simp only [List.length_drop, List.length_take]; rfl)) ?_; (with_reducible refine (cursor_Cursor_Err.calls g192 x193000_3 x193001_3 x193002_3 t200 t201 t202 t203 w _ ?side1 ?side2 A16.out).mono ?_); (case side1 => repeat (first | (with_reducible first | exact HI192.out | apply IsS122.alloc | apply IsS122.drewN | apply IsS122.drew | apply IsS122.set_0 | apply IsS122.set_1 | apply IsS122.set_2 | apply IsS122.setn_2 | apply IsS122.sets_2) | exact HI192.out)); (case side2 => repeat (first | (with_reducible first | exact HB.out | apply below_alloc | apply pw_below_drewN | apply below_drew1 | refine below_set ?_ (IsS122.ge HI192.out)) | exact HB.out)); rintro e w19 ⟨rfl, hi, hb, hk⟩; refine ⟨_, rfl, ?_⟩; have n0_ := Aside0.mk (Kd.R_mono (Kd.R_keep (IsS122.apart (show IsS122 w _ g192 x193000_3 x193001_3 x193002_3 from by repeat (first | (with_reducible first | exact HI192.out | apply IsS122.alloc | apply IsS122.drewN | apply IsS122.drew | apply IsS122.set_0 | apply IsS122.set_1 | apply IsS122.set_2 | apply IsS122.setn_2 | apply IsS122.sets_2) | exact HI192.out)) (by (with_reducible repeat (first | apply Kd.R_alloc | apply Kd.R_drewN | apply Kd.R_drew)); exact HO_11.out) (by decide)) hk (fun _ h => h.2)) (fun _ h => h.1)); have n1_ := Aside0.mk (hb); have n2_ := Aside0.mk (hi); clear HO_11; clear HB; clear HI192; have HO_11 := n0_; have HB := n1_; have HI192 := n2_; clear n0_ n1_ n2_; (try clear hb); (try clear hb2); (try clear hk); (try clear hi); (try simp only [errW_none, errW_some])) | (go_at_call 54; (with_reducible refine (cursor_Cursor_Left.calls g192 t201 t202 t203 t204 t205 t206 t207 w _ ?side1 ?side2 A18.out).mono ?_); (case side1 => repeat (first | (with_reducible first | exact HI192.out | apply IsS122.alloc | apply IsS122.drewN | apply IsS122.drew | apply IsS122.set_0 | apply IsS122.set_1 | apply IsS122.set_2 | apply IsS122.setn_2 | apply IsS122.sets_2) | exact HI192.out)); (case side2 => repeat (first | (with_reducible first | exact HB.out | apply below_alloc | apply pw_below_drewN | apply below_drew1 | refine below_set ?_ (IsS122.ge HI192.out)) | exact HB.out)); rintro e w20 ⟨rfl, hi, hb, hk⟩; have n0_ := Aside0.mk (Kd.R_mono (Kd.R_keep (IsS122.apart (show IsS122 w _ g192 t201 t202 t203 from by repeat (first | (with_reducible first | exact HI192.out | apply IsS122.alloc | apply IsS122.drewN | apply IsS122.drew | apply IsS122.set_0 | apply IsS122.set_1 | apply IsS122.set_2 | apply IsS122.setn_2 | apply IsS122.sets_2) | exact HI192.out)) (by (with_reducible repeat (first | apply Kd.R_alloc | apply Kd.R_drewN | apply Kd.R_drew)); exact HO_11.out) (by decide)) hk (fun _ h => h.2)) (fun _ h => h.1)); have n1_ := Aside0.mk (hb); have n2_ := Aside0.mk (hi); clear HO_11; clear HB; clear HI192; have HO_11 := n0_; have HB := n1_; have HI192 := n2_; clear n0_ n1_ n2_; (try clear hb); (try clear hb2); (try clear hk); (try clear hi); (try simp only [errW_none, errW_some])))
                    go_meet
                    case rel => exact ⟨_, (decide (t204 > 0)), (t205), (t206), (t207), (by first | rfl | (simp; done) | (simp [*]; done)), H', ⟨by have := HJ3.out; have := HJ8.out; have := HK3.out; first | omega | exact Nat.le_refl _⟩, ⟨by (with_reducible repeat (first | apply Kd.R_alloc | apply Kd.R_drewN | apply Kd.R_drew)); exact HO_11.out⟩, ⟨by repeat (first | (with_reducible first | exact HI192.out | apply IsS122.alloc | apply IsS122.drewN | apply IsS122.drew | apply IsS122.set_0 | apply IsS122.set_1 | apply IsS122.set_2 | apply IsS122.setn_2 | apply IsS122.sets_2) | exact HI192.out)⟩, ⟨by repeat (first | (with_reducible first | exact HB.out | apply below_alloc | apply pw_below_drewN | apply below_drew1 | refine below_set ?_ (IsS122.ge HI192.out)) | exact HB.out)⟩⟩
                  · rw [if_neg c17] at H
                    have c17b0 : (t200 == 0) = false := beq_eq_false_iff_ne.mpr c17
                    have c17b1 : (t200 != 0) = true := bne_iff_ne.mpr c17
                    (first | rw [c17b0] | (simp only [i64_w, i32_w]; rw [c17b0]) | skip)
                    have H' := Aside0.mk H
                    clear H
                    go_wp2_with (first | ((with_reducible refine gate_callee (f := 53) rfl ?_); refine goesL_ (some 36) rfl rfl Try.func53 (by kernel_rfl) rfl #[.pointer (some ⟨g192, 0, none⟩)] rfl (by (try simp only [List.map_toArray, List.map_cons, List.map_nil]); first | done | rfl | (simp only [List.length_drop, List.length_take]; rfl)) ?_; (with_reducible refine (cursor_Cursor_Err.calls g192 x193000_3 x193001_3 x193002_3 t200 t201 t202 t203 w _ ?side1 ?side2 A16.out).mono ?_); (case side1 => repeat (first | (with_reducible first | exact HI192.out | apply IsS122.alloc | apply IsS122.drewN | apply IsS122.drew | apply IsS122.set_0 | apply IsS122.set_1 | apply IsS122.set_2 | apply IsS122.setn_2 | apply IsS122.sets_2) | exact HI192.out)); (case side2 => repeat (first | (with_reducible first | exact HB.out | apply below_alloc | apply pw_below_drewN | apply below_drew1 | refine below_set ?_ (IsS122.ge HI192.out)) | exact HB.out)); rintro e w21 ⟨rfl, hi, hb, hk⟩; refine ⟨_, rfl, ?_⟩; have n0_ := Aside0.mk (Kd.R_mono (Kd.R_keep (IsS122.apart (show IsS122 w _ g192 x193000_3 x193001_3 x193002_3 from by repeat (first | (with_reducible first | exact HI192.out | apply IsS122.alloc | apply IsS122.drewN | apply IsS122.drew | apply IsS122.set_0 | apply IsS122.set_1 | apply IsS122.set_2 | apply IsS122.setn_2 | apply IsS122.sets_2) | exact HI192.out)) (by (with_reducible repeat (first | apply Kd.R_alloc | apply Kd.R_drewN | apply Kd.R_drew)); exact HO_11.out) (by decide)) hk (fun _ h => h.2)) (fun _ h => h.1)); have n1_ := Aside0.mk (hb); have n2_ := Aside0.mk (hi); clear HO_11; clear HB; clear HI192; have HO_11 := n0_; have HB := n1_; have HI192 := n2_; clear n0_ n1_ n2_; (try clear hb); (try clear hb2); (try clear hk); (try clear hi); (try simp only [errW_none, errW_some])))
                    go_meet
                    case rel => exact ⟨_, (false), (t201), (t202), (t203), (by first | rfl | (simp; done) | (simp [*]; done)), H', ⟨by have := HJ3.out; have := HJ8.out; have := HK3.out; first | omega | exact Nat.le_refl _⟩, ⟨by (with_reducible repeat (first | apply Kd.R_alloc | apply Kd.R_drewN | apply Kd.R_drew)); exact HO_11.out⟩, ⟨by repeat (first | (with_reducible first | exact HI192.out | apply IsS122.alloc | apply IsS122.drewN | apply IsS122.drew | apply IsS122.set_0 | apply IsS122.set_1 | apply IsS122.set_2 | apply IsS122.setn_2 | apply IsS122.sets_2) | exact HI192.out)⟩, ⟨by repeat (first | (with_reducible first | exact HB.out | apply below_alloc | apply pw_below_drewN | apply below_drew1 | refine below_set ?_ (IsS122.ge HI192.out)) | exact HB.out)⟩⟩
                case rest =>
                  clear HC15
                  try clear c1
                  try clear p2
                  try clear c3
                  try clear c4
                  try clear c5
                  try clear c5b0
                  try clear c5b1
                  try clear c6
                  try clear p6
                  try clear c12
                  try clear c12b0
                  try clear c12b1
                  try clear c17
                  try clear c17b0
                  try clear c17b1
                  try clear p2
                  try clear p6
                  obtain ⟨kq, x42_14, x193000_14, x193001_14, x193002_14, rfl, HA, HJ14, HO_11, HI192, HB⟩ := hcut
                  cases kq with
                  | zero => exact absurd HA.out (by simp [frame_Get.j3])
                  | succ kj14 =>
                    have H := HA.out
                    clear HA
                    simp only [frame_Get.j3] at H
                    by_cases c22 : x42_14 = true
                    · subst c22
                      have H1 : (if (x11_3.length : Int) = 8 then (some (0, ([] : List (S52)), 8)) else ((frame_section.f kj14 x193000_14 x193001_14 x193002_14).bind fun bt208 => (if x11_3.length < 5864062014805 then (frame_Get.l0 kj14 (wrap64 (t193)) (x11_3 ++ [(⟨bt208.1, bt208.2.1⟩ : S52)]) bt208.2.2.1 bt208.2.2.2.1 bt208.2.2.2.2) else (none)))) = some (r1, r2, r3) := by rw [if_pos rfl] at H; exact H
                      clear H
                      have H := H1
                      clear H1
                      by_cases c23 : (x11_3.length : Int) = 8
                      · rw [if_pos c23] at H
                        have c23b0 : ((x11_3.length : Int) == 8) = true := beq_iff_eq.mpr c23
                        have c23b1 : ((x11_3.length : Int) != 8) = false := bne_eq_false_iff_eq.mpr c23
                        clear c23
                        simp only [Option.some.injEq, Prod.mk.injEq] at H
                        obtain ⟨rfl, rfl, rfl⟩ := H
                        obtain ⟨Ao24, co24, eo24⟩ := Kd.R_slice HO_11.out
                        subst eo24
                        go_wp2
                        go_ret3
                        exact ⟨_, by first | rfl | (simp [errW_none, errW_some] <;> rfl) | (simp [*, errW_none, errW_some] <;> rfl), by first | exact Kd.R_nil _ _ _ _ _ | exact Kd.N_nil _ _ _ _ _ | exact Kd.V_nil _ _ _ _ _ | exact Kd.Q_nil _ _ _ _ _ | exact Kd.S_nil _ _ _ _ _, by repeat (first | (with_reducible first | exact HB.out | apply below_alloc | apply pw_below_drewN | apply below_drew1 | refine below_set ?_ (IsS122.ge HI192.out)) | exact HB.out)⟩
                      · rw [if_neg c23] at H
                        have c23b0 : ((x11_3.length : Int) == 8) = false := beq_eq_false_iff_ne.mpr c23
                        have c23b1 : ((x11_3.length : Int) != 8) = true := bne_iff_ne.mpr c23
                        replace H := Option.bind_eq_some_iff.mp H
                        obtain ⟨⟨t208, t209, t210, t211, t212⟩, A250, H⟩ := H
                        replace H : (if x11_3.length < 5864062014805 then (frame_Get.l0 kj14 (wrap64 (t193)) (x11_3 ++ [(⟨t208, t209⟩ : S52)]) t210 t211 t212) else (none)) = some (r1, r2, r3) := H
                        have A25 := Aside0.mk A250
                        clear A250
                        by_cases c26 : x11_3.length < 5864062014805
                        · rw [if_pos c26] at H
                          have LMc26 := Aside0.mk c26
                          clear c26
                          obtain ⟨y213, hy213⟩ : ∃ y_ : List (S52), y_ = (x11_3 ++ [(⟨t208, t209⟩ : S52)]) := ⟨_, rfl⟩
                          replace H : (frame_Get.l0 kj14 (wrap64 (t193)) y213 t210 t211 t212) = some (r1, r2, r3) := by first | (rw [hy213]; with_reducible exact H) | (have H2_ := (Option.bind_some _ _).symm.trans H; rw [hy213]; with_reducible exact H2_) | (have H2_ := (Option.bind_some _ _).symm.trans H; with_reducible exact H2_) | with_reducible exact H | (rw [hy213]; exact H) | exact H
                          have Ny213 := Aside0.mk hy213
                          clear hy213
                          have H' := Aside0.mk H
                          clear H
                          obtain ⟨Ao27, co27, eo27⟩ := Kd.R_slice HO_11.out
                          subst eo27
                          go_wp2_with (first | ((with_reducible refine gate_callee (f := 55) rfl ?_); refine goesL_ (some 48) rfl rfl Try.func55 (by kernel_rfl) rfl #[.pointer (some ⟨g192, 0, none⟩)] rfl (by (try simp only [List.map_toArray, List.map_cons, List.map_nil]); first | done | rfl | (simp only [List.length_drop, List.length_take]; rfl)) ?_; (with_reducible refine (frame_section.calls kj14 g192 x193000_14 x193001_14 x193002_14 t208 t209 t210 t211 t212 w _ ?side1 ?side2 A25.out).mono ?_); (case side1 => repeat (first | (with_reducible first | exact HI192.out | apply IsS122.alloc | apply IsS122.drewN | apply IsS122.drew | apply IsS122.set_0 | apply IsS122.set_1 | apply IsS122.set_2 | apply IsS122.setn_2 | apply IsS122.sets_2) | exact HI192.out)); (case side2 => repeat (first | (with_reducible first | exact HB.out | apply below_alloc | apply pw_below_drewN | apply below_drew1 | refine below_set ?_ (IsS122.ge HI192.out)) | exact HB.out)); rintro e w28 ⟨rfl, hi, hb, hk⟩; refine ⟨_, rfl, ?_⟩; have n0_ := Aside0.mk (Kd.R_mono (Kd.R_keep (IsS122.apart (show IsS122 w _ g192 x193000_14 x193001_14 x193002_14 from by repeat (first | (with_reducible first | exact HI192.out | apply IsS122.alloc | apply IsS122.drewN | apply IsS122.drew | apply IsS122.set_0 | apply IsS122.set_1 | apply IsS122.set_2 | apply IsS122.setn_2 | apply IsS122.sets_2) | exact HI192.out)) (by (with_reducible repeat (first | apply Kd.R_alloc | apply Kd.R_drewN | apply Kd.R_drew)); exact HO_11.out) (by decide)) hk (fun _ h => h.2)) (fun _ h => h.1)); have n1_ := Aside0.mk (hb); have n2_ := Aside0.mk (hi); clear HO_11; clear HB; clear HI192; have HO_11 := n0_; have HB := n1_; have HI192 := n2_; clear n0_ n1_ n2_; (try clear hb); (try clear hb2); (try clear hk); (try clear hi); (try simp only [errW_none, errW_some])) | ((with_reducible refine gate_builtin (b := .append) (xs := #[.tmp 46, .tmp 49]) rfl ?_); at_builtin; refine Kd.R_append k52 (w0 := w) w.heap.size rfl (.tmp 46) (.tmp 49) 36 52 (.agg #[(.int .i64 0), (.string ⟨#[]⟩)]) 24 rfl Try.underlying36 info52 rfl (by decide) (by omega) (.slice Ao27 x11_3.length co27) x11_3 (⟨t208, t209⟩ : S52) [.int .i64 t208, .string t209] (fun _ => True) (fun _ => False) rfl rfl ?aP (fun _ hk => hk.elim) ?aF ?aO ?aB ?aS ?aL ?_; (case aP => exact k52_mkM _ _ _ (⟨t208, t209⟩ : S52)); (case aB => exact (by repeat (first | (with_reducible first | exact HB.out | apply below_alloc | apply pw_below_drewN | apply below_drew1 | refine below_set ?_ (IsS122.ge HI192.out)) | exact HB.out))); (case aF => exact (fun _ _ => trivial)); (case aO => exact (by (with_reducible repeat (first | apply Kd.R_alloc | apply Kd.R_drewN | apply Kd.R_drew)); exact HO_11.out)); (case aS => exact (below_size (by repeat (first | (with_reducible first | exact HB.out | apply below_alloc | apply pw_below_drewN | apply below_drew1 | refine below_set ?_ (IsS122.ge HI192.out)) | exact HB.out)))); (case aL => have := LMc26.out; omega); intro v214 w29 ho hb hg hat; rw [← Ny213.out] at ho; have n0_ := Aside0.mk (IsS122.grown (by repeat (first | (with_reducible first | exact HI192.out | apply IsS122.alloc | apply IsS122.drewN | apply IsS122.drew | apply IsS122.set_0 | apply IsS122.set_1 | apply IsS122.set_2 | apply IsS122.setn_2 | apply IsS122.sets_2) | exact HI192.out)) hg (IsS122.own_ne HI192.out HO_11.out (by decide))); have n1_ := Aside0.mk (hb); have n2_ := Aside0.mk (ho); clear HI192; clear HB; clear HO_11; have HI192 := n0_; have HB := n1_; have HO215 := n2_; clear n0_ n1_ n2_; clear ho hb hg hat))
                          go_roundg kj14
                          case measure => have := HJ3.out; have := HJ8.out; have := HK3.out; have := HJ14.out; omega
                          case rel => exact ⟨(y213), (t210), (t211), (t212), H', ⟨by have := HJ3.out; have := HJ8.out; have := HK3.out; have := HJ14.out; omega⟩, ⟨by (with_reducible repeat (first | apply Kd.R_alloc | apply Kd.R_drewN | apply Kd.R_drew)); exact HO215.out⟩, ⟨by repeat (first | (with_reducible first | exact HI192.out | apply IsS122.alloc | apply IsS122.drewN | apply IsS122.drew | apply IsS122.set_0 | apply IsS122.set_1 | apply IsS122.set_2 | apply IsS122.setn_2 | apply IsS122.sets_2) | exact HI192.out)⟩, ⟨by repeat (first | (with_reducible first | exact HB.out | apply below_alloc | apply pw_below_drewN | apply below_drew1 | refine below_set ?_ (IsS122.ge HI192.out)) | exact HB.out)⟩⟩
                        · rw [if_neg c26] at H
                          exact absurd H (by simp)
                    · replace c22 := Bool.eq_false_iff.mpr c22
                      subst c22
                      have H1 : ((cursor_Cursor_Err.f x193000_14 x193001_14 x193002_14).bind fun bt216 => (if bt216.1 = 0 then (some ((wrap64 (t193)), x11_3, 0)) else (some (0, ([] : List (S52)), bt216.1)))) = some (r1, r2, r3) := by rw [if_neg (show ¬ (false = true) by decide)] at H; exact H
                      clear H
                      have H := H1
                      clear H1
                      replace H := Option.bind_eq_some_iff.mp H
                      obtain ⟨⟨t216, t217, t218, t219⟩, A300, H⟩ := H
                      replace H : (if t216 = 0 then (some ((wrap64 (t193)), x11_3, 0)) else (some (0, ([] : List (S52)), t216))) = some (r1, r2, r3) := H
                      have A30 := Aside0.mk A300
                      clear A300
                      by_cases c31 : t216 = 0
                      · rw [if_pos c31] at H
                        have c31b0 : (t216 == 0) = true := beq_iff_eq.mpr c31
                        have c31b1 : (t216 != 0) = false := bne_eq_false_iff_eq.mpr c31
                        clear c31
                        simp only [Option.some.injEq, Prod.mk.injEq] at H
                        obtain ⟨rfl, rfl, rfl⟩ := H
                        go_wp2_with (first | ((with_reducible refine gate_callee (f := 53) rfl ?_); refine goesL_ (some 52) rfl rfl Try.func53 (by kernel_rfl) rfl #[.pointer (some ⟨g192, 0, none⟩)] rfl (by (try simp only [List.map_toArray, List.map_cons, List.map_nil]); first | done | rfl | (simp only [List.length_drop, List.length_take]; rfl)) ?_; (with_reducible refine (cursor_Cursor_Err.calls g192 x193000_14 x193001_14 x193002_14 t216 t217 t218 t219 w _ ?side1 ?side2 A30.out).mono ?_); (case side1 => repeat (first | (with_reducible first | exact HI192.out | apply IsS122.alloc | apply IsS122.drewN | apply IsS122.drew | apply IsS122.set_0 | apply IsS122.set_1 | apply IsS122.set_2 | apply IsS122.setn_2 | apply IsS122.sets_2) | exact HI192.out)); (case side2 => repeat (first | (with_reducible first | exact HB.out | apply below_alloc | apply pw_below_drewN | apply below_drew1 | refine below_set ?_ (IsS122.ge HI192.out)) | exact HB.out)); rintro e w32 ⟨rfl, hi, hb, hk⟩; refine ⟨_, rfl, ?_⟩; have n0_ := Aside0.mk (Kd.R_mono (Kd.R_keep (IsS122.apart (show IsS122 w _ g192 x193000_14 x193001_14 x193002_14 from by repeat (first | (with_reducible first | exact HI192.out | apply IsS122.alloc | apply IsS122.drewN | apply IsS122.drew | apply IsS122.set_0 | apply IsS122.set_1 | apply IsS122.set_2 | apply IsS122.setn_2 | apply IsS122.sets_2) | exact HI192.out)) (by (with_reducible repeat (first | apply Kd.R_alloc | apply Kd.R_drewN | apply Kd.R_drew)); exact HO_11.out) (by decide)) hk (fun _ h => h.2)) (fun _ h => h.1)); have n1_ := Aside0.mk (hb); have n2_ := Aside0.mk (hi); clear HO_11; clear HB; clear HI192; have HO_11 := n0_; have HB := n1_; have HI192 := n2_; clear n0_ n1_ n2_; (try clear hb); (try clear hb2); (try clear hk); (try clear hi); (try simp only [errW_none, errW_some])))
                        go_ret3
                        exact ⟨_, by first | rfl | (simp [errW_none, errW_some] <;> rfl) | (simp [*, errW_none, errW_some] <;> rfl), by (with_reducible repeat (first | apply Kd.R_alloc | apply Kd.R_drewN | apply Kd.R_drew)); exact HO_11.out, by repeat (first | (with_reducible first | exact HB.out | apply below_alloc | apply pw_below_drewN | apply below_drew1 | refine below_set ?_ (IsS122.ge HI192.out)) | exact HB.out)⟩
                      · rw [if_neg c31] at H
                        have c31b0 : (t216 == 0) = false := beq_eq_false_iff_ne.mpr c31
                        have c31b1 : (t216 != 0) = true := bne_iff_ne.mpr c31
                        simp only [Option.some.injEq, Prod.mk.injEq] at H
                        obtain ⟨rfl, rfl, rfl⟩ := H
                        go_wp2_with (first | ((with_reducible refine gate_callee (f := 53) rfl ?_); refine goesL_ (some 52) rfl rfl Try.func53 (by kernel_rfl) rfl #[.pointer (some ⟨g192, 0, none⟩)] rfl (by (try simp only [List.map_toArray, List.map_cons, List.map_nil]); first | done | rfl | (simp only [List.length_drop, List.length_take]; rfl)) ?_; (with_reducible refine (cursor_Cursor_Err.calls g192 x193000_14 x193001_14 x193002_14 t216 t217 t218 t219 w _ ?side1 ?side2 A30.out).mono ?_); (case side1 => repeat (first | (with_reducible first | exact HI192.out | apply IsS122.alloc | apply IsS122.drewN | apply IsS122.drew | apply IsS122.set_0 | apply IsS122.set_1 | apply IsS122.set_2 | apply IsS122.setn_2 | apply IsS122.sets_2) | exact HI192.out)); (case side2 => repeat (first | (with_reducible first | exact HB.out | apply below_alloc | apply pw_below_drewN | apply below_drew1 | refine below_set ?_ (IsS122.ge HI192.out)) | exact HB.out)); rintro e w33 ⟨rfl, hi, hb, hk⟩; refine ⟨_, rfl, ?_⟩; have n0_ := Aside0.mk (Kd.R_mono (Kd.R_keep (IsS122.apart (show IsS122 w _ g192 x193000_14 x193001_14 x193002_14 from by repeat (first | (with_reducible first | exact HI192.out | apply IsS122.alloc | apply IsS122.drewN | apply IsS122.drew | apply IsS122.set_0 | apply IsS122.set_1 | apply IsS122.set_2 | apply IsS122.setn_2 | apply IsS122.sets_2) | exact HI192.out)) (by (with_reducible repeat (first | apply Kd.R_alloc | apply Kd.R_drewN | apply Kd.R_drew)); exact HO_11.out) (by decide)) hk (fun _ h => h.2)) (fun _ h => h.1)); have n1_ := Aside0.mk (hb); have n2_ := Aside0.mk (hi); clear HO_11; clear HB; clear HI192; have HO_11 := n0_; have HB := n1_; have HI192 := n2_; clear n0_ n1_ n2_; (try clear hb); (try clear hb2); (try clear hk); (try clear hi); (try simp only [errW_none, errW_some])))
                        go_ret3
                        exact ⟨_, by first | rfl | (simp [errW_none, errW_some] <;> rfl) | (simp [*, errW_none, errW_some] <;> rfl), by first | exact Kd.R_nil _ _ _ _ _ | exact Kd.N_nil _ _ _ _ _ | exact Kd.V_nil _ _ _ _ _ | exact Kd.Q_nil _ _ _ _ _ | exact Kd.S_nil _ _ _ _ _, by repeat (first | (with_reducible first | exact HB.out | apply below_alloc | apply pw_below_drewN | apply below_drew1 | refine below_set ?_ (IsS122.ge HI192.out)) | exact HB.out)⟩

end Go.Proofs.Ytdjpelcdijpihaa.PrintF
