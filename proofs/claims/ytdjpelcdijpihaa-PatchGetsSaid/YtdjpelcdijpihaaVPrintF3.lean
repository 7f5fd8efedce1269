/- A part of the proof of the claim: what it uses of the text PrintF3 (printed by xprint.py). -/
import Derived.Test.YtdjpelcdijpihaaVZ
import Derived.Test.YtdjpelcdijpihaaShort
import Derived.Test.YtdjpelcdijpihaaVPrintF0
import Derived.Test.YtdjpelcdijpihaaVPrintF1
import Derived.Test.YtdjpelcdijpihaaVPrintF2
import Derived.Test.YtdjpelcdijpihaaVPrintC1
namespace Go.Proofs.Ytdjpelcdijpihaa.PrintF
open Go.Proofs.Ytdjpelcdijpihaa.Print
open Go.RowKit Go.Proofs.YtdjpelcdijpihaaW.PrintWords Go.Proofs.YtdjpelcdijpihaaW.PrintLast Go.Proofs.YtdjpelcdijpihaaW.PrintMore
attribute [local go_sem] max2_int min2_int max_two min_two
set_option linter.unusedVariables false
set_option linter.unusedSimpArgs false
mutual
def frame_section.j0 : Nat → Int → ByteArray → Int → Option Int → Option (Int × ByteArray × ByteArray × Int × Option Int)
 | 0, _, _, _, _ => none
 | k + 1, x3, x1000, x1001, x1002 => (cursor_Cursor_Uint.f k x1000 x1001 x1002 16777216).bind fun bt148 => ((cursor_Cursor_Err.f bt148.2.1 bt148.2.2.1 bt148.2.2.2).bind fun bt152 => (if bt152.1 = 0 then ((cursor_Cursor_Left.f bt152.2.1 bt152.2.2.1 bt152.2.2.2).bind fun bt156 => (frame_section.j1 k x3 bt148.1 (decide (bt156.1 < (wrap64 (bt148.1 + 4)))) bt156.2.1 bt156.2.2.1 bt156.2.2.2)) else (frame_section.j1 k x3 bt148.1 false bt152.2.1 bt152.2.2.1 bt152.2.2.2)))
def frame_section.j1 : Nat → Int → Int → Bool → ByteArray → Int → Option Int → Option (Int × ByteArray × ByteArray × Int × Option Int)
 | 0, _, _, _, _, _, _ => none
 | k + 1, x3, x4, x26, x1000, x1001, x1002 => if x26 = true then ((cursor_Cursor_Fail.f x1000 x1001 x1002 2).bind fun bt160 => (frame_section.j2 k x3 x4 bt160.1 bt160.2.1 bt160.2.2)) else (frame_section.j2 k x3 x4 x1000 x1001 x1002)
def frame_section.j2 : Nat → Int → Int → ByteArray → Int → Option Int → Option (Int × ByteArray × ByteArray × Int × Option Int)
 | 0, _, _, _, _, _ => none
 | k + 1, x3, x4, x1000, x1001, x1002 => (cursor_Cursor_Bytes.f x1000 x1001 x1002 x4).bind fun bt163 => ((cursor_Cursor_Bytes.f bt163.2.1 bt163.2.2.1 bt163.2.2.2 4).bind fun bt168 => ((crc_Get.f bt168.1).bind fun bt172 => (if bt172.2 = true then ((crc_Sum.f bt163.1).bind fun t174 => (if bt172.1 = t174 then (some (x3, bt163.1, bt168.2.1, bt168.2.2.1, bt168.2.2.2)) else ((cursor_Cursor_Fail.f bt168.2.1 bt168.2.2.1 bt168.2.2.2 5).bind fun bt175 => (some (x3, bt163.1, bt175.1, bt175.2.1, bt175.2.2))))) else ((cursor_Cursor_Fail.f bt168.2.1 bt168.2.2.1 bt168.2.2.2 5).bind fun bt178 => (some (x3, bt163.1, bt178.1, bt178.2.1, bt178.2.2))))))
end
def frame_section.f (k : Nat) (s0_0 : ByteArray) (s0_1 : Int) (s0_2 : Option Int) : Option (Int × ByteArray × ByteArray × Int × Option Int) := (cursor_Cursor_Byte.f s0_0 s0_1 s0_2).bind fun bt141 => (if (wrap64 (bt141.1)) = 0 then ((cursor_Cursor_Fail.f bt141.2.1 bt141.2.2.1 bt141.2.2.2 4).bind fun bt145 => (frame_section.j0 k (wrap64 (bt141.1)) bt145.1 bt145.2.1 bt145.2.2)) else (frame_section.j0 k (wrap64 (bt141.1)) bt141.2.1 bt141.2.2.1 bt141.2.2.2))
theorem frame_section.mono_l : ∀ k, (∀ y0 y1 y2 y3, LeO (frame_section.j0 k y0 y1 y2 y3) (frame_section.j0 (k + 1) y0 y1 y2 y3)) ∧ (∀ y0 y1 y2 y3 y4 y5, LeO (frame_section.j1 k y0 y1 y2 y3 y4 y5) (frame_section.j1 (k + 1) y0 y1 y2 y3 y4 y5)) ∧ (∀ y0 y1 y2 y3 y4, LeO (frame_section.j2 k y0 y1 y2 y3 y4) (frame_section.j2 (k + 1) y0 y1 y2 y3 y4))
 | 0 => ⟨fun _ _ _ _ r h => by simp [frame_section.j0] at h, fun _ _ _ _ _ _ r h => by simp [frame_section.j1] at h, fun _ _ _ _ _ r h => by simp [frame_section.j2] at h⟩
 | k + 1 => by
  obtain ⟨ih0, ih1, ih2⟩ := frame_section.mono_l k
  refine ⟨?_, ?_, ?_⟩
  ·intro y0 y1 y2 y3
   unfold frame_section.j0
   repeat' first
   | (with_reducible exact ih0 _ _ _ _)
   | (with_reducible exact ih1 _ _ _ _ _ _)
   | (with_reducible exact ih2 _ _ _ _ _)
   | (with_reducible exact cursor_Cursor_Uint.mono _ _ _ _ _)
   | (with_reducible exact LeO.refl _)
   | (with_reducible exact LeO.none _)
   | (with_reducible refine LeO.ite ?_ ?_)
   | (with_reducible refine LeO.bind ?_ (fun _ => ?_))
   | exact ih0 _ _ _ _
   | exact ih1 _ _ _ _ _ _
   | exact ih2 _ _ _ _ _
   | exact cursor_Cursor_Uint.mono _ _ _ _ _
   | exact LeO.none _
   | refine LeO.ite ?_ ?_
   | refine LeO.bind ?_ (fun _ => ?_)
  ·intro y0 y1 y2 y3 y4 y5
   unfold frame_section.j1
   repeat' first
   | (with_reducible exact ih0 _ _ _ _)
   | (with_reducible exact ih1 _ _ _ _ _ _)
   | (with_reducible exact ih2 _ _ _ _ _)
   | (with_reducible exact cursor_Cursor_Uint.mono _ _ _ _ _)
   | (with_reducible exact LeO.refl _)
   | (with_reducible exact LeO.none _)
   | (with_reducible refine LeO.ite ?_ ?_)
   | (with_reducible refine LeO.bind ?_ (fun _ => ?_))
   | exact ih0 _ _ _ _
   | exact ih1 _ _ _ _ _ _
   | exact ih2 _ _ _ _ _
   | exact cursor_Cursor_Uint.mono _ _ _ _ _
   | exact LeO.none _
   | refine LeO.ite ?_ ?_
   | refine LeO.bind ?_ (fun _ => ?_)
  ·intro y0 y1 y2 y3 y4
   unfold frame_section.j2
   repeat' first
   | (with_reducible exact ih0 _ _ _ _)
   | (with_reducible exact ih1 _ _ _ _ _ _)
   | (with_reducible exact ih2 _ _ _ _ _)
   | (with_reducible exact cursor_Cursor_Uint.mono _ _ _ _ _)
   | (with_reducible exact LeO.refl _)
   | (with_reducible exact LeO.none _)
   | (with_reducible refine LeO.ite ?_ ?_)
   | (with_reducible refine LeO.bind ?_ (fun _ => ?_))
   | exact ih0 _ _ _ _
   | exact ih1 _ _ _ _ _ _
   | exact ih2 _ _ _ _ _
   | exact cursor_Cursor_Uint.mono _ _ _ _ _
   | exact LeO.none _
   | refine LeO.ite ?_ ?_
   | refine LeO.bind ?_ (fun _ => ?_)
theorem frame_section.mono : ∀ a0 a1 a2 k, LeO (frame_section.f k a0 a1 a2) (frame_section.f (k + 1) a0 a1 a2) := by
 intro a0 a1 a2 k
 obtain ⟨ih0, ih1, ih2⟩ := frame_section.mono_l k
 unfold frame_section.f
 repeat' first
   | (with_reducible exact ih0 _ _ _ _)
   | (with_reducible exact ih1 _ _ _ _ _ _)
   | (with_reducible exact ih2 _ _ _ _ _)
   | (with_reducible exact cursor_Cursor_Uint.mono _ _ _ _ _)
   | (with_reducible exact LeO.refl _)
   | (with_reducible exact LeO.none _)
   | (with_reducible refine LeO.ite ?_ ?_)
   | (with_reducible refine LeO.bind ?_ (fun _ => ?_))
   | exact ih0 _ _ _ _
   | exact ih1 _ _ _ _ _ _
   | exact ih2 _ _ _ _ _
   | exact cursor_Cursor_Uint.mono _ _ _ _ _
   | exact LeO.none _
   | refine LeO.ite ?_ ?_
   | refine LeO.bind ?_ (fun _ => ?_)
set_option maxHeartbeats 8000000 in
set_option maxRecDepth 100000 in
theorem frame_section.calls (k : Nat) (g : Nat) (s0_0 : ByteArray) (s0_1 : Int) (s0_2 : Option Int) (r1 : Int) (r2 : ByteArray) (r3 : ByteArray) (r4 : Int) (r5 : Option Int) (w0 w : World) (hI : IsS122 w0 w g s0_0 s0_1 s0_2) (hB : Below w0.heap.size w0 w) (h : frame_section.f k s0_0 s0_1 s0_2 = some (r1, r2, r3, r4, r5)) :
  Calls Try.prog 55 #[.pointer (some ⟨g, 0, none⟩)] w fun e w' => e = .returned (.agg #[.int .i64 r1, .string r2]) ∧ IsS122 w0 w' g r3 r4 r5 ∧ Below w0.heap.size w0 w' ∧ KeepBut w w' g none := by
 have hu52 := Try.underlying52
 have HI0 := Aside0.mk hI
 have HK := Aside0.mk (KeepBut.refl w g none)
 have HL := Aside0.mk hB.size
 clear hI
 have HW0 := Aside0.mk hB.size
 have HB := Aside0.mk hB
 clear hB
 have H : ((cursor_Cursor_Byte.f s0_0 s0_1 s0_2).bind fun bt141 => (if (wrap64 (bt141.1)) = 0 then ((cursor_Cursor_Fail.f bt141.2.1 bt141.2.2.1 bt141.2.2.2 4).bind fun bt145 => (frame_section.j0 k (wrap64 (bt141.1)) bt145.1 bt145.2.1 bt145.2.2)) else (frame_section.j0 k (wrap64 (bt141.1)) bt141.2.1 bt141.2.2.1 bt141.2.2.2))) = some (r1, r2, r3, r4, r5) := h
 clear h
 replace H := Option.bind_eq_some_iff.mp H
 obtain ⟨⟨t141, t142, t143, t144⟩, A20, H⟩ := H
 replace H : (if (wrap64 (t141)) = 0 then ((cursor_Cursor_Fail.f t142 t143 t144 4).bind fun bt145 => (frame_section.j0 k (wrap64 (t141)) bt145.1 bt145.2.1 bt145.2.2)) else (frame_section.j0 k (wrap64 (t141)) t142 t143 t144)) = some (r1, r2, r3, r4, r5) := H
 have A2 := Aside0.mk A20
 clear A20
 have HC3 := Aside0.mk H
 clear H
 go_enter Try.func55, Try.ntmps55
 go_upto_if 12 with (first | ((with_reducible refine gate_dst (N := 2) rfl ?_); refine box_event ?hg (N := 2) ?hd (cs := #[.int .i64 0, .string (⟨#[]⟩ : ByteArray)]) (t := 52) ?hr ?_; (case hd => rfl); (case hg => rfl); (case hr => first | (go_simp; done) | (go_simp; rfl)); intro gb140 hg w4 hbox hb; have n0_ := Aside0.mk (IsS122.below zi2 hb); have n1_ := Aside0.mk (KeepBut.trans zk (KeepBut.of_below hb g none) (.inl rfl)); have n2_ := Aside0.mk (below_step zb hb); have n3_ := Aside0.mk (hbox); have n4_ := Aside0.mk ((by rw [hg]; exact (keep_size (w := w) (g := g) (row := none) zk) : w.heap.size ≤ gb140)); have n5_ := Aside0.mk ((Nat.le_trans HW0.out (by rw [hg]; exact (keep_size (w := w) (g := g) (row := none) zk) : w.heap.size ≤ gb140) : w0.heap.size ≤ gb140)); have n6_ := Aside0.mk ((by rw [hg]; exact Nat.ne_of_lt (IsS122.lt (show IsS122 w0 _ g s0_0 s0_1 s0_2 from zi2)) : g ≠ gb140)); have n7_ := Aside0.mk ((by rw [hg]; exact Nat.ne_of_gt (IsS122.lt (show IsS122 w0 _ g s0_0 s0_1 s0_2 from zi2)) : gb140 ≠ g)); clear HI0; clear HK; clear HB; have HI0 := n0_; have HK := n1_; have HB := n2_; have BK140 := n3_; have GW140 := n4_; have GE140 := n5_; have NB0_140 := n6_; have NB140_0 := n7_; clear n0_ n1_ n2_ n3_ n4_ n5_ n6_ n7_; clear hb hbox hg) | ((with_reducible refine gate_callee (f := 51) rfl ?_); refine goesL_ (some 9) rfl rfl Try.func51 (by kernel_rfl) rfl #[.pointer (some ⟨g, 0, none⟩)] rfl zm ?_; (with_reducible refine (cursor_Cursor_Byte.calls g s0_0 s0_1 s0_2 t141 t142 t143 t144 w0 _ ?side1 ?side2 A2.out).mono ?_); (case side1 => exact zi2); (case side2 => exact zb); rintro e w5 ⟨rfl, hi, hb, hk⟩; refine ⟨_, rfl, ?_⟩; have n0_ := Aside0.mk (KeepBut.blk hk (g' := gb140) (o := .cells #[.int .i64 0, .string (⟨#[]⟩ : ByteArray)] 52 (0, 0)) (by (with_reducible repeat (first | refine blk_drewN ?_ _ | refine blk_drew ?_ | refine blk_alloc ?_ _)); exact BK140.out) NB140_0.out (by simp)); have n1_ := Aside0.mk (KeepBut.trans zk hk (.inl rfl)); have n2_ := Aside0.mk (hb); have n3_ := Aside0.mk (hi); clear BK140; clear HK; clear HB; clear HI0; have BK140 := n0_; have HK := n1_; have HB := n2_; have HI0 := n3_; clear n0_ n1_ n2_ n3_; (try clear hb); (try clear hb2); (try clear hk); (try clear hi); (try simp only [errW_none, errW_some])))
 (try simp only [Act.put, zq1, zq2, zq3])
 go_cut [] (fun wc => ∃ (kq : Nat) (x1000_2 : ByteArray) (x1001_2 : Int) (x1002_2 : Option Int), Aside0 (frame_section.j0 kq (wrap64 (t141)) x1000_2 x1001_2 x1002_2 = some (r1, r2, r3, r4, r5)) ∧ Aside0 (kq ≤ k) ∧ Aside0 (wc.heap[gb140]? = some (.cells #[.int .i64 0, .string (⟨#[]⟩ : ByteArray)] 52 (0, 0))) ∧ Aside0 (IsS122 w0 wc g x1000_2 x1001_2 x1002_2) ∧ Aside0 (KeepBut w wc g none) ∧ Aside0 (Below w0.heap.size w0 wc))
 case first =>
  have H := HC3.out
  clear HC3
  by_cases c6 : (wrap64 (t141)) = 0
  ·rw [if_pos c6] at H
   have c6b0 : ((wrap64 (t141)) == 0) = true := beq_iff_eq.mpr c6
   have c6b1 : ((wrap64 (t141)) != 0) = false := bne_eq_false_iff_eq.mpr c6
   clear c6
   (first | rw [c6b0] | (simp only [i64_w]; rw [c6b0]) | skip)
   replace H := Option.bind_eq_some_iff.mp H
   obtain ⟨⟨t145, t146, t147⟩, A70, H⟩ := H
   replace H : (frame_section.j0 k (wrap64 (t141)) t145 t146 t147) = some (r1, r2, r3, r4, r5) := H
   have A7 := Aside0.mk A70
   clear A70
   have H' := Aside0.mk H
   clear H
   go_wp2_with (first | ((with_reducible refine gate_callee (f := 52) rfl ?_); refine goesL_ (some 14) rfl rfl Try.func52 (by kernel_rfl) rfl #[.pointer (some ⟨g, 0, none⟩), .int .i64 4] rfl zm ?_; (with_reducible refine (cursor_Cursor_Fail.calls g t142 t143 t144 4 t145 t146 t147 w0 _ ?side1 ?side2 A7.out).mono ?_); (case side1 => exact zi2); (case side2 => exact zb); rintro e w8 ⟨rfl, hi, hb, hk⟩; refine ⟨_, rfl, ?_⟩; have n0_ := Aside0.mk (KeepBut.blk hk (g' := gb140) (o := .cells #[.int .i64 0, .string (⟨#[]⟩ : ByteArray)] 52 (0, 0)) (by (with_reducible repeat (first | refine blk_drewN ?_ _ | refine blk_drew ?_ | refine blk_alloc ?_ _)); exact BK140.out) NB140_0.out (by simp)); have n1_ := Aside0.mk (KeepBut.trans zk hk (.inl rfl)); have n2_ := Aside0.mk (hb); have n3_ := Aside0.mk (hi); clear BK140; clear HK; clear HB; clear HI0; have BK140 := n0_; have HK := n1_; have HB := n2_; have HI0 := n3_; clear n0_ n1_ n2_ n3_; (try clear hb); (try clear hb2); (try clear hk); (try clear hi); (try simp only [errW_none, errW_some])))
   go_meet
   case rel => exact ⟨_, (t145), (t146), (t147), H', ⟨by first | omega | exact Nat.le_refl _⟩, ⟨by (with_reducible repeat (first | refine blk_drewN ?_ _ | refine blk_drew ?_ | refine blk_alloc ?_ _)); exact BK140.out⟩, ⟨zi2⟩, ⟨zk⟩, ⟨zb⟩⟩
  ·rw [if_neg c6] at H
   have c6b0 : ((wrap64 (t141)) == 0) = false := beq_eq_false_iff_ne.mpr c6
   have c6b1 : ((wrap64 (t141)) != 0) = true := bne_iff_ne.mpr c6
   (first | rw [c6b0] | (simp only [i64_w]; rw [c6b0]) | skip)
   have H' := Aside0.mk H
   clear H
   go_wp2
   go_meet
   case rel => exact ⟨_, (t142), (t143), (t144), H', ⟨by first | omega | exact Nat.le_refl _⟩, ⟨by (with_reducible repeat (first | refine blk_drewN ?_ _ | refine blk_drew ?_ | refine blk_alloc ?_ _)); exact BK140.out⟩, ⟨zi2⟩, ⟨zk⟩, ⟨zb⟩⟩
 case rest =>
  clear HC3
  try clear p2
  try clear c5
  try clear c6
  try clear c6b0
  try clear c6b1
  try clear p6
  obtain ⟨kq, x1000_2, x1001_2, x1002_2, HA, HJ2, BK140, HI0, HK, HB⟩ := hcut
  cases kq with
  | zero => exact absurd HA.out (by simp [frame_section.j0])
  | succ kj2 =>
   have H := HA.out
   clear HA
   simp only [frame_section.j0] at H
   replace H := Option.bind_eq_some_iff.mp H
   obtain ⟨⟨t148, t149, t150, t151⟩, A90, H⟩ := H
   replace H : ((cursor_Cursor_Err.f t149 t150 t151).bind fun bt152 => (if bt152.1 = 0 then ((cursor_Cursor_Left.f bt152.2.1 bt152.2.2.1 bt152.2.2.2).bind fun bt156 => (frame_section.j1 kj2 (wrap64 (t141)) t148 (decide (bt156.1 < (wrap64 (t148 + 4)))) bt156.2.1 bt156.2.2.1 bt156.2.2.2)) else (frame_section.j1 kj2 (wrap64 (t141)) t148 false bt152.2.1 bt152.2.2.1 bt152.2.2.2))) = some (r1, r2, r3, r4, r5) := H
   have A9 := Aside0.mk A90
   clear A90
   have HC10 := Aside0.mk H
   clear H
   go_upto_region 5 with (first | ((with_reducible refine gate_callee (f := 73) rfl ?_); refine goesL_ (some 16) rfl rfl Try.func73 (by kernel_rfl) rfl #[.pointer (some ⟨g, 0, none⟩), .int .u64 16777216] rfl zm ?_; (with_reducible refine (cursor_Cursor_Uint.calls kj2 g x1000_2 x1001_2 x1002_2 16777216 t148 t149 t150 t151 w0 _ ?side1 ?side2 A9.out).mono ?_); (case side1 => exact zi2); (case side2 => exact zb); rintro e w11 ⟨rfl, hi, hb, hk⟩; refine ⟨_, rfl, ?_⟩; have n0_ := Aside0.mk (KeepBut.blk hk (g' := gb140) (o := .cells #[.int .i64 0, .string (⟨#[]⟩ : ByteArray)] 52 (0, 0)) (by (with_reducible repeat (first | refine blk_drewN ?_ _ | refine blk_drew ?_ | refine blk_alloc ?_ _)); exact BK140.out) NB140_0.out (by simp)); have n1_ := Aside0.mk (KeepBut.trans zk hk (.inl rfl)); have n2_ := Aside0.mk (hb); have n3_ := Aside0.mk (hi); clear BK140; clear HK; clear HB; clear HI0; have BK140 := n0_; have HK := n1_; have HB := n2_; have HI0 := n3_; clear n0_ n1_ n2_ n3_; (try clear hb); (try clear hb2); (try clear hk); (try clear hi); (try simp only [errW_none, errW_some])))
   (try simp only [Act.put, zq1, zq2, zq3])
   go_cut [26] (fun v26 wc => ∃ (kq : Nat) (x26_9 : Bool) (x1000_9 : ByteArray) (x1001_9 : Int) (x1002_9 : Option Int), v26 = .bool x26_9 ∧ Aside0 (frame_section.j1 kq (wrap64 (t141)) t148 x26_9 x1000_9 x1001_9 x1002_9 = some (r1, r2, r3, r4, r5)) ∧ Aside0 (kq ≤ kj2) ∧ Aside0 (wc.heap[gb140]? = some (.cells #[.int .i64 0, .string (⟨#[]⟩ : ByteArray)] 52 (0, 0))) ∧ Aside0 (IsS122 w0 wc g x1000_9 x1001_9 x1002_9) ∧ Aside0 (KeepBut w wc g none) ∧ Aside0 (Below w0.heap.size w0 wc))
   case first =>
    have H := HC10.out
    clear HC10
    replace H := Option.bind_eq_some_iff.mp H
    obtain ⟨⟨t152, t153, t154, t155⟩, A120, H⟩ := H
    replace H : (if t152 = 0 then ((cursor_Cursor_Left.f t153 t154 t155).bind fun bt156 => (frame_section.j1 kj2 (wrap64 (t141)) t148 (decide (bt156.1 < (wrap64 (t148 + 4)))) bt156.2.1 bt156.2.2.1 bt156.2.2.2)) else (frame_section.j1 kj2 (wrap64 (t141)) t148 false t153 t154 t155)) = some (r1, r2, r3, r4, r5) := H
    have A12 := Aside0.mk A120
    clear A120
    by_cases c13 : t152 = 0
    ·rw [if_pos c13] at H
     have c13b0 : (t152 == 0) = true := beq_iff_eq.mpr c13
     have c13b1 : (t152 != 0) = false := bne_eq_false_iff_eq.mpr c13
     clear c13
     (first | rw [c13b0] | (simp only [i64_w]; rw [c13b0]) | skip)
     replace H := Option.bind_eq_some_iff.mp H
     obtain ⟨⟨t156, t157, t158, t159⟩, A140, H⟩ := H
     replace H : (frame_section.j1 kj2 (wrap64 (t141)) t148 (decide (t156 < (wrap64 (t148 + 4)))) t157 t158 t159) = some (r1, r2, r3, r4, r5) := H
     have A14 := Aside0.mk A140
     clear A140
     have H' := Aside0.mk H
     clear H
     go_wp2_with (first | ((with_reducible refine gate_callee (f := 53) rfl ?_); refine goesL_ (some 18) rfl rfl Try.func53 (by kernel_rfl) rfl #[.pointer (some ⟨g, 0, none⟩)] rfl zm ?_; (with_reducible refine (cursor_Cursor_Err.calls g t149 t150 t151 t152 t153 t154 t155 w0 _ ?side1 ?side2 A12.out).mono ?_); (case side1 => exact zi2); (case side2 => exact zb); rintro e w15 ⟨rfl, hi, hb, hk⟩; refine ⟨_, rfl, ?_⟩; have n0_ := Aside0.mk (KeepBut.blk hk (g' := gb140) (o := .cells #[.int .i64 0, .string (⟨#[]⟩ : ByteArray)] 52 (0, 0)) (by (with_reducible repeat (first | refine blk_drewN ?_ _ | refine blk_drew ?_ | refine blk_alloc ?_ _)); exact BK140.out) NB140_0.out (by simp)); have n1_ := Aside0.mk (KeepBut.trans zk hk (.inl rfl)); have n2_ := Aside0.mk (hb); have n3_ := Aside0.mk (hi); clear BK140; clear HK; clear HB; clear HI0; have BK140 := n0_; have HK := n1_; have HB := n2_; have HI0 := n3_; clear n0_ n1_ n2_ n3_; (try clear hb); (try clear hb2); (try clear hk); (try clear hi); (try simp only [errW_none, errW_some])) | (go_at_call 54; (with_reducible refine (cursor_Cursor_Left.calls g t153 t154 t155 t156 t157 t158 t159 w0 _ ?side1 ?side2 A14.out).mono ?_); (case side1 => exact zi2); (case side2 => exact zb); rintro e w16 ⟨rfl, hi, hb, hk⟩; have n0_ := Aside0.mk (KeepBut.blk hk (g' := gb140) (o := .cells #[.int .i64 0, .string (⟨#[]⟩ : ByteArray)] 52 (0, 0)) (by (with_reducible repeat (first | refine blk_drewN ?_ _ | refine blk_drew ?_ | refine blk_alloc ?_ _)); exact BK140.out) NB140_0.out (by simp)); have n1_ := Aside0.mk (KeepBut.trans zk hk (.inl rfl)); have n2_ := Aside0.mk (hb); have n3_ := Aside0.mk (hi); clear BK140; clear HK; clear HB; clear HI0; have BK140 := n0_; have HK := n1_; have HB := n2_; have HI0 := n3_; clear n0_ n1_ n2_ n3_; (try clear hb); (try clear hb2); (try clear hk); (try clear hi); (try simp only [errW_none, errW_some])))
     go_meet
     case rel => exact ⟨_, (decide (t156 < (wrap64 (t148 + 4)))), (t157), (t158), (t159), zr, H', ⟨by have := HJ2.out; first | omega | exact Nat.le_refl _⟩, ⟨by (with_reducible repeat (first | refine blk_drewN ?_ _ | refine blk_drew ?_ | refine blk_alloc ?_ _)); exact BK140.out⟩, ⟨zi2⟩, ⟨zk⟩, ⟨zb⟩⟩
    ·rw [if_neg c13] at H
     have c13b0 : (t152 == 0) = false := beq_eq_false_iff_ne.mpr c13
     have c13b1 : (t152 != 0) = true := bne_iff_ne.mpr c13
     (first | rw [c13b0] | (simp only [i64_w]; rw [c13b0]) | skip)
     have H' := Aside0.mk H
     clear H
     go_wp2_with (first | ((with_reducible refine gate_callee (f := 53) rfl ?_); refine goesL_ (some 18) rfl rfl Try.func53 (by kernel_rfl) rfl #[.pointer (some ⟨g, 0, none⟩)] rfl zm ?_; (with_reducible refine (cursor_Cursor_Err.calls g t149 t150 t151 t152 t153 t154 t155 w0 _ ?side1 ?side2 A12.out).mono ?_); (case side1 => exact zi2); (case side2 => exact zb); rintro e w17 ⟨rfl, hi, hb, hk⟩; refine ⟨_, rfl, ?_⟩; have n0_ := Aside0.mk (KeepBut.blk hk (g' := gb140) (o := .cells #[.int .i64 0, .string (⟨#[]⟩ : ByteArray)] 52 (0, 0)) (by (with_reducible repeat (first | refine blk_drewN ?_ _ | refine blk_drew ?_ | refine blk_alloc ?_ _)); exact BK140.out) NB140_0.out (by simp)); have n1_ := Aside0.mk (KeepBut.trans zk hk (.inl rfl)); have n2_ := Aside0.mk (hb); have n3_ := Aside0.mk (hi); clear BK140; clear HK; clear HB; clear HI0; have BK140 := n0_; have HK := n1_; have HB := n2_; have HI0 := n3_; clear n0_ n1_ n2_ n3_; (try clear hb); (try clear hb2); (try clear hk); (try clear hi); (try simp only [errW_none, errW_some])))
     go_meet
     case rel => exact ⟨_, (false), (t153), (t154), (t155), zr, H', ⟨by have := HJ2.out; first | omega | exact Nat.le_refl _⟩, ⟨by (with_reducible repeat (first | refine blk_drewN ?_ _ | refine blk_drew ?_ | refine blk_alloc ?_ _)); exact BK140.out⟩, ⟨zi2⟩, ⟨zk⟩, ⟨zb⟩⟩
   case rest =>
    clear HC10
    try clear c1
    try clear p2
    try clear c5
    try clear c6
    try clear c6b0
    try clear c6b1
    try clear p6
    try clear c7
    try clear c13
    try clear c13b0
    try clear c13b1
    try clear p2
    try clear p6
    obtain ⟨kq, x26_9, x1000_9, x1001_9, x1002_9, rfl, HA, HJ9, BK140, HI0, HK, HB⟩ := hcut
    cases kq with
    | zero => exact absurd HA.out (by simp [frame_section.j1])
    | succ kj9 =>
     have H := HA.out
     clear HA
     simp only [frame_section.j1] at H
     have HC18 := Aside0.mk H
     clear H
     go_upto_if 26 with (fail)
     go_cut [] (fun wc => ∃ (kq : Nat) (x1000_17 : ByteArray) (x1001_17 : Int) (x1002_17 : Option Int), Aside0 (frame_section.j2 kq (wrap64 (t141)) t148 x1000_17 x1001_17 x1002_17 = some (r1, r2, r3, r4, r5)) ∧ Aside0 (kq ≤ kj9) ∧ Aside0 (wc.heap[gb140]? = some (.cells #[.int .i64 0, .string (⟨#[]⟩ : ByteArray)] 52 (0, 0))) ∧ Aside0 (IsS122 w0 wc g x1000_17 x1001_17 x1002_17) ∧ Aside0 (KeepBut w wc g none) ∧ Aside0 (Below w0.heap.size w0 wc))
     case first =>
      have H := HC18.out
      clear HC18
      by_cases c19 : x26_9 = true
      ·subst c19
       have H1 : ((cursor_Cursor_Fail.f x1000_9 x1001_9 x1002_9 2).bind fun bt160 => (frame_section.j2 kj9 (wrap64 (t141)) t148 bt160.1 bt160.2.1 bt160.2.2)) = some (r1, r2, r3, r4, r5) := by rw [if_pos rfl] at H; exact H
       clear H
       have H := H1
       clear H1
       replace H := Option.bind_eq_some_iff.mp H
       obtain ⟨⟨t160, t161, t162⟩, A200, H⟩ := H
       replace H : (frame_section.j2 kj9 (wrap64 (t141)) t148 t160 t161 t162) = some (r1, r2, r3, r4, r5) := H
       have A20 := Aside0.mk A200
       clear A200
       have H' := Aside0.mk H
       clear H
       go_wp2_with (first | ((with_reducible refine gate_callee (f := 52) rfl ?_); refine goesL_ (some 28) rfl rfl Try.func52 (by kernel_rfl) rfl #[.pointer (some ⟨g, 0, none⟩), .int .i64 2] rfl zm ?_; (with_reducible refine (cursor_Cursor_Fail.calls g x1000_9 x1001_9 x1002_9 2 t160 t161 t162 w0 _ ?side1 ?side2 A20.out).mono ?_); (case side1 => exact zi2); (case side2 => exact zb); rintro e w21 ⟨rfl, hi, hb, hk⟩; refine ⟨_, rfl, ?_⟩; have n0_ := Aside0.mk (KeepBut.blk hk (g' := gb140) (o := .cells #[.int .i64 0, .string (⟨#[]⟩ : ByteArray)] 52 (0, 0)) (by (with_reducible repeat (first | refine blk_drewN ?_ _ | refine blk_drew ?_ | refine blk_alloc ?_ _)); exact BK140.out) NB140_0.out (by simp)); have n1_ := Aside0.mk (KeepBut.trans zk hk (.inl rfl)); have n2_ := Aside0.mk (hb); have n3_ := Aside0.mk (hi); clear BK140; clear HK; clear HB; clear HI0; have BK140 := n0_; have HK := n1_; have HB := n2_; have HI0 := n3_; clear n0_ n1_ n2_ n3_; (try clear hb); (try clear hb2); (try clear hk); (try clear hi); (try simp only [errW_none, errW_some])))
       go_meet
       case rel => exact ⟨_, (t160), (t161), (t162), H', ⟨by have := HJ2.out; have := HJ9.out; first | omega | exact Nat.le_refl _⟩, ⟨by (with_reducible repeat (first | refine blk_drewN ?_ _ | refine blk_drew ?_ | refine blk_alloc ?_ _)); exact BK140.out⟩, ⟨zi2⟩, ⟨zk⟩, ⟨zb⟩⟩
      ·replace c19 := Bool.eq_false_iff.mpr c19
       subst c19
       have H1 : (frame_section.j2 kj9 (wrap64 (t141)) t148 x1000_9 x1001_9 x1002_9) = some (r1, r2, r3, r4, r5) := by rw [if_neg (show ¬ (false = true) by decide)] at H; exact H
       clear H
       have H := H1
       clear H1
       have H' := Aside0.mk H
       clear H
       go_wp2
       go_meet
       case rel => exact ⟨_, (x1000_9), (x1001_9), (x1002_9), H', ⟨by have := HJ2.out; have := HJ9.out; first | omega | exact Nat.le_refl _⟩, ⟨by (with_reducible repeat (first | refine blk_drewN ?_ _ | refine blk_drew ?_ | refine blk_alloc ?_ _)); exact BK140.out⟩, ⟨zi2⟩, ⟨zk⟩, ⟨zb⟩⟩
     case rest =>
      clear HC18
      try clear c1
      try clear p2
      try clear c5
      try clear c6
      try clear c6b0
      try clear c6b1
      try clear p6
      try clear c7
      try clear c13
      try clear c13b0
      try clear c13b1
      try clear c19
      try clear p2
      try clear p6
      obtain ⟨kq, x1000_17, x1001_17, x1002_17, HA, HJ17, BK140, HI0, HK, HB⟩ := hcut
      cases kq with
      | zero => exact absurd HA.out (by simp [frame_section.j2])
      | succ kj17 =>
       have H := HA.out
       clear HA
       simp only [frame_section.j2] at H
       replace H := Option.bind_eq_some_iff.mp H
       obtain ⟨⟨t163, t164, t165, t166⟩, A220, H⟩ := H
       replace H : ((cursor_Cursor_Bytes.f t164 t165 t166 4).bind fun bt168 => ((crc_Get.f bt168.1).bind fun bt172 => (if bt172.2 = true then ((crc_Sum.f t163).bind fun t174 => (if bt172.1 = t174 then (some ((wrap64 (t141)), t163, bt168.2.1, bt168.2.2.1, bt168.2.2.2)) else ((cursor_Cursor_Fail.f bt168.2.1 bt168.2.2.1 bt168.2.2.2 5).bind fun bt175 => (some ((wrap64 (t141)), t163, bt175.1, bt175.2.1, bt175.2.2))))) else ((cursor_Cursor_Fail.f bt168.2.1 bt168.2.2.1 bt168.2.2.2 5).bind fun bt178 => (some ((wrap64 (t141)), t163, bt178.1, bt178.2.1, bt178.2.2)))))) = some (r1, r2, r3, r4, r5) := H
       have A22 := Aside0.mk A220
       clear A220
       replace H := Option.bind_eq_some_iff.mp H
       obtain ⟨⟨t168, t169, t170, t171⟩, A230, H⟩ := H
       replace H : ((crc_Get.f t168).bind fun bt172 => (if bt172.2 = true then ((crc_Sum.f t163).bind fun t174 => (if bt172.1 = t174 then (some ((wrap64 (t141)), t163, t169, t170, t171)) else ((cursor_Cursor_Fail.f t169 t170 t171 5).bind fun bt175 => (some ((wrap64 (t141)), t163, bt175.1, bt175.2.1, bt175.2.2))))) else ((cursor_Cursor_Fail.f t169 t170 t171 5).bind fun bt178 => (some ((wrap64 (t141)), t163, bt178.1, bt178.2.1, bt178.2.2))))) = some (r1, r2, r3, r4, r5) := H
       have A23 := Aside0.mk A230
       clear A230
       replace H := Option.bind_eq_some_iff.mp H
       obtain ⟨⟨t172, t173⟩, A240, H⟩ := H
       replace H : (if t173 = true then ((crc_Sum.f t163).bind fun t174 => (if t172 = t174 then (some ((wrap64 (t141)), t163, t169, t170, t171)) else ((cursor_Cursor_Fail.f t169 t170 t171 5).bind fun bt175 => (some ((wrap64 (t141)), t163, bt175.1, bt175.2.1, bt175.2.2))))) else ((cursor_Cursor_Fail.f t169 t170 t171 5).bind fun bt178 => (some ((wrap64 (t141)), t163, bt178.1, bt178.2.1, bt178.2.2)))) = some (r1, r2, r3, r4, r5) := H
       have A24 := Aside0.mk A240
       clear A240
       by_cases c25 : t173 = true
       ·subst c25
        have H1 : ((crc_Sum.f t163).bind fun t174 => (if t172 = t174 then (some ((wrap64 (t141)), t163, t169, t170, t171)) else ((cursor_Cursor_Fail.f t169 t170 t171 5).bind fun bt175 => (some ((wrap64 (t141)), t163, bt175.1, bt175.2.1, bt175.2.2))))) = some (r1, r2, r3, r4, r5) := by rw [if_pos rfl] at H; exact H
        clear H
        have H := H1
        clear H1
        replace H := Option.bind_eq_some_iff.mp H
        obtain ⟨t174, A260, H⟩ := H
        replace H : (if t172 = t174 then (some ((wrap64 (t141)), t163, t169, t170, t171)) else ((cursor_Cursor_Fail.f t169 t170 t171 5).bind fun bt175 => (some ((wrap64 (t141)), t163, bt175.1, bt175.2.1, bt175.2.2)))) = some (r1, r2, r3, r4, r5) := H
        have A26 := Aside0.mk A260
        clear A260
        by_cases c27 : t172 = t174
        ·rw [if_pos c27] at H
         have c27b0 : (t172 == t174) = true := beq_iff_eq.mpr c27
         have c27b1 : (t172 != t174) = false := bne_eq_false_iff_eq.mpr c27
         clear c27
         simp only [Option.some.injEq, Prod.mk.injEq] at H
         obtain ⟨rfl, rfl, rfl, rfl, rfl⟩ := H
         go_wp2_with (first | ((with_reducible refine gate_callee (f := 65) rfl ?_); refine goesL_ (some 32) rfl rfl Try.func65 (by kernel_rfl) rfl #[.pointer (some ⟨g, 0, none⟩), .int .i64 t148] rfl zm ?_; (with_reducible refine (cursor_Cursor_Bytes.calls g x1000_17 x1001_17 x1002_17 t148 t163 t164 t165 t166 w0 _ ?side1 ?side2 A22.out).mono ?_); (case side1 => exact zi2); (case side2 => exact zb); rintro e w28 ⟨rfl, hi, hb, hk⟩; refine ⟨_, rfl, ?_⟩; have n0_ := Aside0.mk (KeepBut.blk hk (g' := gb140) (o := .cells #[.int .i64 0, .string (⟨#[]⟩ : ByteArray)] 52 (0, 0)) (by (with_reducible repeat (first | refine blk_drewN ?_ _ | refine blk_drew ?_ | refine blk_alloc ?_ _)); exact BK140.out) NB140_0.out (by simp)); have n1_ := Aside0.mk (KeepBut.trans zk hk (.inl rfl)); have n2_ := Aside0.mk (hb); have n3_ := Aside0.mk (hi); clear BK140; clear HK; clear HB; clear HI0; have BK140 := n0_; have HK := n1_; have HB := n2_; have HI0 := n3_; clear n0_ n1_ n2_ n3_; (try clear hb); (try clear hb2); (try clear hk); (try clear hi); (try simp only [errW_none, errW_some])) | ((with_reducible refine gate_dst (N := 5) rfl ?_); refine box_event ?hg (N := 5) ?hd (cs := #[.int .i64 0, .string (⟨#[]⟩ : ByteArray)]) (t := 52) ?hr ?_; (case hd => rfl); (case hg => rfl); (case hr => first | (go_simp; done) | (go_simp; rfl)); intro gb167 hg w29 hbox hb; have n0_ := Aside0.mk (blk_below (g := gb140) (o := .cells #[.int .i64 0, .string (⟨#[]⟩ : ByteArray)] 52 (0, 0)) (by (with_reducible repeat (first | refine blk_drewN ?_ _ | refine blk_drew ?_ | refine blk_alloc ?_ _)); exact BK140.out) hb); have n1_ := Aside0.mk (IsS122.below zi2 hb); have n2_ := Aside0.mk (KeepBut.trans zk (KeepBut.of_below hb g none) (.inl rfl)); have n3_ := Aside0.mk (below_step zb hb); have n4_ := Aside0.mk (hbox); have n5_ := Aside0.mk ((by rw [hg]; exact (keep_size (w := w) (g := g) (row := none) zk) : w.heap.size ≤ gb167)); have n6_ := Aside0.mk ((Nat.le_trans HW0.out (by rw [hg]; exact (keep_size (w := w) (g := g) (row := none) zk) : w.heap.size ≤ gb167) : w0.heap.size ≤ gb167)); have n7_ := Aside0.mk ((by rw [hg]; exact Nat.ne_of_lt (blk_lt (g := gb140) (o := .cells #[.int .i64 0, .string (⟨#[]⟩ : ByteArray)] 52 (0, 0)) (by (with_reducible repeat (first | refine blk_drewN ?_ _ | refine blk_drew ?_ | refine blk_alloc ?_ _)); exact BK140.out)) : gb140 ≠ gb167)); have n8_ := Aside0.mk ((by rw [hg]; exact Nat.ne_of_gt (blk_lt (g := gb140) (o := .cells #[.int .i64 0, .string (⟨#[]⟩ : ByteArray)] 52 (0, 0)) (by (with_reducible repeat (first | refine blk_drewN ?_ _ | refine blk_drew ?_ | refine blk_alloc ?_ _)); exact BK140.out)) : gb167 ≠ gb140)); have n9_ := Aside0.mk ((by rw [hg]; exact Nat.ne_of_lt (IsS122.lt (show IsS122 w0 _ g t164 t165 t166 from zi2)) : g ≠ gb167)); have n10_ := Aside0.mk ((by rw [hg]; exact Nat.ne_of_gt (IsS122.lt (show IsS122 w0 _ g t164 t165 t166 from zi2)) : gb167 ≠ g)); clear BK140; clear HI0; clear HK; clear HB; have BK140 := n0_; have HI0 := n1_; have HK := n2_; have HB := n3_; have BK167 := n4_; have GW167 := n5_; have GE167 := n6_; have NB140_167 := n7_; have NB167_140 := n8_; have NB0_167 := n9_; have NB167_0 := n10_; clear n0_ n1_ n2_ n3_ n4_ n5_ n6_ n7_ n8_ n9_ n10_; clear hb hbox hg; have hnb30 := NB167_140.out; have hnc30 := NB140_167.out; have hnb31 := NB167_0.out; have hnc31 := NB0_167.out; have hcz32_0 : w29.cell? ⟨gb167, 0, none⟩ = some (.int .i64 0) := (blk_cell BK167.out 0).trans rfl; have hcz32_1 : w29.cell? ⟨gb167, 1, none⟩ = some (.string (⟨#[]⟩ : ByteArray)) := (blk_cell BK167.out 1).trans rfl; have hfz32_0 := blk_frozen BK167.out 0; have hfz32_1 := blk_frozen BK167.out 1) | ((with_reducible refine gate_callee (f := 65) rfl ?_); refine goesL_ (some 36) rfl rfl Try.func65 (by kernel_rfl) rfl #[.pointer (some ⟨g, 0, none⟩), .int .i64 4] rfl zm ?_; (with_reducible refine (cursor_Cursor_Bytes.calls g t164 t165 t166 4 t168 t169 t170 t171 w0 _ ?side1 ?side2 A23.out).mono ?_); (case side1 => exact zi2); (case side2 => exact zb); rintro e w33 ⟨rfl, hi, hb, hk⟩; refine ⟨_, rfl, ?_⟩; have n0_ := Aside0.mk (KeepBut.blk hk (g' := gb140) (o := .cells #[.int .i64 0, .string (⟨#[]⟩ : ByteArray)] 52 (0, 0)) (by (with_reducible repeat (first | refine blk_drewN ?_ _ | refine blk_drew ?_ | refine blk_alloc ?_ _)); refine blk_far ?_ NB140_167.out _; (with_reducible repeat (first | refine blk_drewN ?_ _ | refine blk_drew ?_ | refine blk_alloc ?_ _)); refine blk_far ?_ NB140_167.out _; (with_reducible repeat (first | refine blk_drewN ?_ _ | refine blk_drew ?_ | refine blk_alloc ?_ _)); exact BK140.out) NB140_0.out (by simp)); have n1_ := Aside0.mk (KeepBut.blk hk (g' := gb167) (o := .cells #[.int .i64 (wrap64 (t141)), .string t163] 52 (0, 0)) (by (with_reducible repeat (first | refine blk_drewN ?_ _ | refine blk_drew ?_ | refine blk_alloc ?_ _)); refine blk_put (cs := #[.int .i64 (wrap64 (t141)), .string (⟨#[]⟩ : ByteArray)]) ?_ 1 _ rfl; (with_reducible repeat (first | refine blk_drewN ?_ _ | refine blk_drew ?_ | refine blk_alloc ?_ _)); refine blk_put (cs := #[.int .i64 0, .string (⟨#[]⟩ : ByteArray)]) ?_ 0 _ rfl; (with_reducible repeat (first | refine blk_drewN ?_ _ | refine blk_drew ?_ | refine blk_alloc ?_ _)); exact BK167.out) NB167_0.out (by simp)); have n2_ := Aside0.mk (KeepBut.trans zk hk (.inl rfl)); have n3_ := Aside0.mk (hb); have n4_ := Aside0.mk (hi); clear BK140; clear BK167; clear HK; clear HB; clear HI0; have BK140 := n0_; have BK167 := n1_; have HK := n2_; have HB := n3_; have HI0 := n4_; clear n0_ n1_ n2_ n3_ n4_; (try clear hb); (try clear hb2); (try clear hk); (try clear hi); (try simp only [errW_none, errW_some])) | ((with_reducible refine gate_callee (f := 23) rfl ?_); refine goesL_ (some 37) rfl rfl Try.func23 (by kernel_rfl) rfl #[.string t168] rfl zm ?_; (with_reducible refine (crc_Get.calls t168 t172 true _ A24.out).mono ?_); rintro e w' ⟨rfl, ⟨nd, rfl⟩⟩; refine ⟨_, rfl, ?_⟩; (try (rw [drewN_self w33]; generalize hq_ : World.drewN w33 _ = w33; have n0_ : Aside0 (w33.heap[gb140]? = some (.cells #[.int .i64 0, .string (⟨#[]⟩ : ByteArray)] 52 (0, 0))) := ⟨by rw [← hq_]; exact (by (with_reducible repeat (first | refine blk_drewN ?_ _ | refine blk_drew ?_ | refine blk_alloc ?_ _)); exact BK140.out)⟩; have n1_ : Aside0 (w33.heap[gb167]? = some (.cells #[.int .i64 (wrap64 (t141)), .string t163] 52 (0, 0))) := ⟨by rw [← hq_]; exact (by (with_reducible repeat (first | refine blk_drewN ?_ _ | refine blk_drew ?_ | refine blk_alloc ?_ _)); exact BK167.out)⟩; have n2_ : Aside0 (IsS122 w0 w33 g t169 t170 t171) := ⟨by rw [← hq_]; exact zi2⟩; have n3_ : Aside0 (KeepBut w w33 g none) := ⟨by rw [← hq_]; exact zk⟩; have n4_ : Aside0 (Below w0.heap.size w0 w33) := ⟨by rw [← hq_]; exact zb⟩; clear BK140 BK167 HI0 HK HB hq_; have BK140 := n0_; have BK167 := n1_; have HI0 := n2_; have HK := n3_; have HB := n4_; clear n0_ n1_ n2_ n3_ n4_)); have hcz34_0 : w33.cell? ⟨gb167, 0, none⟩ = some (.int .i64 (wrap64 (t141))) := (blk_cell BK167.out 0).trans rfl; have hcz34_1 : w33.cell? ⟨gb167, 1, none⟩ = some (.string t163) := (blk_cell BK167.out 1).trans rfl; have hfz34_0 := blk_frozen BK167.out 0; have hfz34_1 := blk_frozen BK167.out 1) | (go_at_call 20; (with_reducible refine (crc_Sum.calls t163 t174 _ A26.out).mono ?_); rintro e w35 ⟨rfl, hb⟩; have n0_ := Aside0.mk (blk_below (g := gb140) (o := .cells #[.int .i64 0, .string (⟨#[]⟩ : ByteArray)] 52 (0, 0)) (by (with_reducible repeat (first | refine blk_drewN ?_ _ | refine blk_drew ?_ | refine blk_alloc ?_ _)); exact BK140.out) hb); have n1_ := Aside0.mk (IsS122.below zi2 hb); have n2_ := Aside0.mk (blk_below (g := gb167) (o := .cells #[.int .i64 (wrap64 (t141)), .string t163] 52 (0, 0)) (by (with_reducible repeat (first | refine blk_drewN ?_ _ | refine blk_drew ?_ | refine blk_alloc ?_ _)); exact BK167.out) hb); have n3_ := Aside0.mk (KeepBut.trans zk (KeepBut.of_below hb g none) (.inl rfl)); have n4_ := Aside0.mk (below_step zb hb); clear BK140; clear HI0; clear BK167; clear HK; clear HB; have BK140 := n0_; have HI0 := n1_; have BK167 := n2_; have HK := n3_; have HB := n4_; clear n0_ n1_ n2_ n3_ n4_; (try clear hb); (try clear hb2); (try clear hk); (try clear hi); have hcz36_0 : w35.cell? ⟨gb167, 0, none⟩ = some (.int .i64 (wrap64 (t141))) := (blk_cell BK167.out 0).trans rfl; have hcz36_1 : w35.cell? ⟨gb167, 1, none⟩ = some (.string t163) := (blk_cell BK167.out 1).trans rfl; have hfz36_0 := blk_frozen BK167.out 0; have hfz36_1 := blk_frozen BK167.out 1; have hnb37 := NB140_0.out; have hnc37 := NB0_140.out; have hcz38_0 : w35.cell? ⟨gb140, 0, none⟩ = some (.int .i64 0) := (blk_cell BK140.out 0).trans rfl; have hcz38_1 : w35.cell? ⟨gb140, 1, none⟩ = some (.string (⟨#[]⟩ : ByteArray)) := (blk_cell BK140.out 1).trans rfl; have hfz38_0 := blk_frozen BK140.out 0; have hfz38_1 := blk_frozen BK140.out 1))
         refine bodyPost_ret (results_cell_row rfl _ _ gb140 52 #[.int .i64 (wrap64 (t141)), .string t163] (0, 0) _ rfl (by (with_reducible repeat (first | refine blk_drewN ?_ _ | refine blk_drew ?_ | refine blk_alloc ?_ _)); refine blk_put (cs := #[.int .i64 (wrap64 (t141)), .string (⟨#[]⟩ : ByteArray)]) ?_ 1 _ rfl; (with_reducible repeat (first | refine blk_drewN ?_ _ | refine blk_drew ?_ | refine blk_alloc ?_ _)); refine blk_put (cs := #[.int .i64 0, .string (⟨#[]⟩ : ByteArray)]) ?_ 0 _ rfl; (with_reducible repeat (first | refine blk_drewN ?_ _ | refine blk_drew ?_ | refine blk_alloc ?_ _)); exact BK140.out) Try.underlying52 rfl (by kernel_rfl)) rfl ?_
         exact ⟨ze, zi2, zb, zk⟩
        ·rw [if_neg c27] at H
         have c27b0 : (t172 == t174) = false := beq_eq_false_iff_ne.mpr c27
         have c27b1 : (t172 != t174) = true := bne_iff_ne.mpr c27
         replace H := Option.bind_eq_some_iff.mp H
         obtain ⟨⟨t175, t176, t177⟩, A390, H⟩ := H
         replace H : (some ((wrap64 (t141)), t163, t175, t176, t177)) = some (r1, r2, r3, r4, r5) := H
         have A39 := Aside0.mk A390
         clear A390
         simp only [Option.some.injEq, Prod.mk.injEq] at H
         obtain ⟨rfl, rfl, rfl, rfl, rfl⟩ := H
         go_wp2_with (first | ((with_reducible refine gate_callee (f := 65) rfl ?_); refine goesL_ (some 32) rfl rfl Try.func65 (by kernel_rfl) rfl #[.pointer (some ⟨g, 0, none⟩), .int .i64 t148] rfl zm ?_; (with_reducible refine (cursor_Cursor_Bytes.calls g x1000_17 x1001_17 x1002_17 t148 t163 t164 t165 t166 w0 _ ?side1 ?side2 A22.out).mono ?_); (case side1 => exact zi2); (case side2 => exact zb); rintro e w40 ⟨rfl, hi, hb, hk⟩; refine ⟨_, rfl, ?_⟩; have n0_ := Aside0.mk (KeepBut.blk hk (g' := gb140) (o := .cells #[.int .i64 0, .string (⟨#[]⟩ : ByteArray)] 52 (0, 0)) (by (with_reducible repeat (first | refine blk_drewN ?_ _ | refine blk_drew ?_ | refine blk_alloc ?_ _)); exact BK140.out) NB140_0.out (by simp)); have n1_ := Aside0.mk (KeepBut.trans zk hk (.inl rfl)); have n2_ := Aside0.mk (hb); have n3_ := Aside0.mk (hi); clear BK140; clear HK; clear HB; clear HI0; have BK140 := n0_; have HK := n1_; have HB := n2_; have HI0 := n3_; clear n0_ n1_ n2_ n3_; (try clear hb); (try clear hb2); (try clear hk); (try clear hi); (try simp only [errW_none, errW_some])) | ((with_reducible refine gate_dst (N := 5) rfl ?_); refine box_event ?hg (N := 5) ?hd (cs := #[.int .i64 0, .string (⟨#[]⟩ : ByteArray)]) (t := 52) ?hr ?_; (case hd => rfl); (case hg => rfl); (case hr => first | (go_simp; done) | (go_simp; rfl)); intro gb167 hg w41 hbox hb; have n0_ := Aside0.mk (blk_below (g := gb140) (o := .cells #[.int .i64 0, .string (⟨#[]⟩ : ByteArray)] 52 (0, 0)) (by (with_reducible repeat (first | refine blk_drewN ?_ _ | refine blk_drew ?_ | refine blk_alloc ?_ _)); exact BK140.out) hb); have n1_ := Aside0.mk (IsS122.below zi2 hb); have n2_ := Aside0.mk (KeepBut.trans zk (KeepBut.of_below hb g none) (.inl rfl)); have n3_ := Aside0.mk (below_step zb hb); have n4_ := Aside0.mk (hbox); have n5_ := Aside0.mk ((by rw [hg]; exact (keep_size (w := w) (g := g) (row := none) zk) : w.heap.size ≤ gb167)); have n6_ := Aside0.mk ((Nat.le_trans HW0.out (by rw [hg]; exact (keep_size (w := w) (g := g) (row := none) zk) : w.heap.size ≤ gb167) : w0.heap.size ≤ gb167)); have n7_ := Aside0.mk ((by rw [hg]; exact Nat.ne_of_lt (blk_lt (g := gb140) (o := .cells #[.int .i64 0, .string (⟨#[]⟩ : ByteArray)] 52 (0, 0)) (by (with_reducible repeat (first | refine blk_drewN ?_ _ | refine blk_drew ?_ | refine blk_alloc ?_ _)); exact BK140.out)) : gb140 ≠ gb167)); have n8_ := Aside0.mk ((by rw [hg]; exact Nat.ne_of_gt (blk_lt (g := gb140) (o := .cells #[.int .i64 0, .string (⟨#[]⟩ : ByteArray)] 52 (0, 0)) (by (with_reducible repeat (first | refine blk_drewN ?_ _ | refine blk_drew ?_ | refine blk_alloc ?_ _)); exact BK140.out)) : gb167 ≠ gb140)); have n9_ := Aside0.mk ((by rw [hg]; exact Nat.ne_of_lt (IsS122.lt (show IsS122 w0 _ g t164 t165 t166 from zi2)) : g ≠ gb167)); have n10_ := Aside0.mk ((by rw [hg]; exact Nat.ne_of_gt (IsS122.lt (show IsS122 w0 _ g t164 t165 t166 from zi2)) : gb167 ≠ g)); clear BK140; clear HI0; clear HK; clear HB; have BK140 := n0_; have HI0 := n1_; have HK := n2_; have HB := n3_; have BK167 := n4_; have GW167 := n5_; have GE167 := n6_; have NB140_167 := n7_; have NB167_140 := n8_; have NB0_167 := n9_; have NB167_0 := n10_; clear n0_ n1_ n2_ n3_ n4_ n5_ n6_ n7_ n8_ n9_ n10_; clear hb hbox hg; have hnb42 := NB167_140.out; have hnc42 := NB140_167.out; have hnb43 := NB167_0.out; have hnc43 := NB0_167.out; have hcz44_0 : w41.cell? ⟨gb167, 0, none⟩ = some (.int .i64 0) := (blk_cell BK167.out 0).trans rfl; have hcz44_1 : w41.cell? ⟨gb167, 1, none⟩ = some (.string (⟨#[]⟩ : ByteArray)) := (blk_cell BK167.out 1).trans rfl; have hfz44_0 := blk_frozen BK167.out 0; have hfz44_1 := blk_frozen BK167.out 1) | ((with_reducible refine gate_callee (f := 65) rfl ?_); refine goesL_ (some 36) rfl rfl Try.func65 (by kernel_rfl) rfl #[.pointer (some ⟨g, 0, none⟩), .int .i64 4] rfl zm ?_; (with_reducible refine (cursor_Cursor_Bytes.calls g t164 t165 t166 4 t168 t169 t170 t171 w0 _ ?side1 ?side2 A23.out).mono ?_); (case side1 => exact zi2); (case side2 => exact zb); rintro e w45 ⟨rfl, hi, hb, hk⟩; refine ⟨_, rfl, ?_⟩; have n0_ := Aside0.mk (KeepBut.blk hk (g' := gb140) (o := .cells #[.int .i64 0, .string (⟨#[]⟩ : ByteArray)] 52 (0, 0)) (by (with_reducible repeat (first | refine blk_drewN ?_ _ | refine blk_drew ?_ | refine blk_alloc ?_ _)); refine blk_far ?_ NB140_167.out _; (with_reducible repeat (first | refine blk_drewN ?_ _ | refine blk_drew ?_ | refine blk_alloc ?_ _)); refine blk_far ?_ NB140_167.out _; (with_reducible repeat (first | refine blk_drewN ?_ _ | refine blk_drew ?_ | refine blk_alloc ?_ _)); exact BK140.out) NB140_0.out (by simp)); have n1_ := Aside0.mk (KeepBut.blk hk (g' := gb167) (o := .cells #[.int .i64 (wrap64 (t141)), .string t163] 52 (0, 0)) (by (with_reducible repeat (first | refine blk_drewN ?_ _ | refine blk_drew ?_ | refine blk_alloc ?_ _)); refine blk_put (cs := #[.int .i64 (wrap64 (t141)), .string (⟨#[]⟩ : ByteArray)]) ?_ 1 _ rfl; (with_reducible repeat (first | refine blk_drewN ?_ _ | refine blk_drew ?_ | refine blk_alloc ?_ _)); refine blk_put (cs := #[.int .i64 0, .string (⟨#[]⟩ : ByteArray)]) ?_ 0 _ rfl; (with_reducible repeat (first | refine blk_drewN ?_ _ | refine blk_drew ?_ | refine blk_alloc ?_ _)); exact BK167.out) NB167_0.out (by simp)); have n2_ := Aside0.mk (KeepBut.trans zk hk (.inl rfl)); have n3_ := Aside0.mk (hb); have n4_ := Aside0.mk (hi); clear BK140; clear BK167; clear HK; clear HB; clear HI0; have BK140 := n0_; have BK167 := n1_; have HK := n2_; have HB := n3_; have HI0 := n4_; clear n0_ n1_ n2_ n3_ n4_; (try clear hb); (try clear hb2); (try clear hk); (try clear hi); (try simp only [errW_none, errW_some])) | ((with_reducible refine gate_callee (f := 23) rfl ?_); refine goesL_ (some 37) rfl rfl Try.func23 (by kernel_rfl) rfl #[.string t168] rfl zm ?_; (with_reducible refine (crc_Get.calls t168 t172 true _ A24.out).mono ?_); rintro e w' ⟨rfl, ⟨nd, rfl⟩⟩; refine ⟨_, rfl, ?_⟩; (try (rw [drewN_self w45]; generalize hq_ : World.drewN w45 _ = w45; have n0_ : Aside0 (w45.heap[gb140]? = some (.cells #[.int .i64 0, .string (⟨#[]⟩ : ByteArray)] 52 (0, 0))) := ⟨by rw [← hq_]; exact (by (with_reducible repeat (first | refine blk_drewN ?_ _ | refine blk_drew ?_ | refine blk_alloc ?_ _)); exact BK140.out)⟩; have n1_ : Aside0 (w45.heap[gb167]? = some (.cells #[.int .i64 (wrap64 (t141)), .string t163] 52 (0, 0))) := ⟨by rw [← hq_]; exact (by (with_reducible repeat (first | refine blk_drewN ?_ _ | refine blk_drew ?_ | refine blk_alloc ?_ _)); exact BK167.out)⟩; have n2_ : Aside0 (IsS122 w0 w45 g t169 t170 t171) := ⟨by rw [← hq_]; exact zi2⟩; have n3_ : Aside0 (KeepBut w w45 g none) := ⟨by rw [← hq_]; exact zk⟩; have n4_ : Aside0 (Below w0.heap.size w0 w45) := ⟨by rw [← hq_]; exact zb⟩; clear BK140 BK167 HI0 HK HB hq_; have BK140 := n0_; have BK167 := n1_; have HI0 := n2_; have HK := n3_; have HB := n4_; clear n0_ n1_ n2_ n3_ n4_)); have hcz46_0 : w45.cell? ⟨gb167, 0, none⟩ = some (.int .i64 (wrap64 (t141))) := (blk_cell BK167.out 0).trans rfl; have hcz46_1 : w45.cell? ⟨gb167, 1, none⟩ = some (.string t163) := (blk_cell BK167.out 1).trans rfl; have hfz46_0 := blk_frozen BK167.out 0; have hfz46_1 := blk_frozen BK167.out 1) | (go_at_call 20; (with_reducible refine (crc_Sum.calls t163 t174 _ A26.out).mono ?_); rintro e w47 ⟨rfl, hb⟩; have n0_ := Aside0.mk (blk_below (g := gb140) (o := .cells #[.int .i64 0, .string (⟨#[]⟩ : ByteArray)] 52 (0, 0)) (by (with_reducible repeat (first | refine blk_drewN ?_ _ | refine blk_drew ?_ | refine blk_alloc ?_ _)); exact BK140.out) hb); have n1_ := Aside0.mk (IsS122.below zi2 hb); have n2_ := Aside0.mk (blk_below (g := gb167) (o := .cells #[.int .i64 (wrap64 (t141)), .string t163] 52 (0, 0)) (by (with_reducible repeat (first | refine blk_drewN ?_ _ | refine blk_drew ?_ | refine blk_alloc ?_ _)); exact BK167.out) hb); have n3_ := Aside0.mk (KeepBut.trans zk (KeepBut.of_below hb g none) (.inl rfl)); have n4_ := Aside0.mk (below_step zb hb); clear BK140; clear HI0; clear BK167; clear HK; clear HB; have BK140 := n0_; have HI0 := n1_; have BK167 := n2_; have HK := n3_; have HB := n4_; clear n0_ n1_ n2_ n3_ n4_; (try clear hb); (try clear hb2); (try clear hk); (try clear hi)) | ((with_reducible refine gate_callee (f := 52) rfl ?_); refine goesL_ (some 50) rfl rfl Try.func52 (by kernel_rfl) rfl #[.pointer (some ⟨g, 0, none⟩), .int .i64 5] rfl zm ?_; (with_reducible refine (cursor_Cursor_Fail.calls g t169 t170 t171 5 t175 t176 t177 w0 _ ?side1 ?side2 A39.out).mono ?_); (case side1 => exact zi2); (case side2 => exact zb); rintro e w48 ⟨rfl, hi, hb, hk⟩; refine ⟨_, rfl, ?_⟩; have n0_ := Aside0.mk (KeepBut.blk hk (g' := gb140) (o := .cells #[.int .i64 0, .string (⟨#[]⟩ : ByteArray)] 52 (0, 0)) (by (with_reducible repeat (first | refine blk_drewN ?_ _ | refine blk_drew ?_ | refine blk_alloc ?_ _)); exact BK140.out) NB140_0.out (by simp)); have n1_ := Aside0.mk (KeepBut.blk hk (g' := gb167) (o := .cells #[.int .i64 (wrap64 (t141)), .string t163] 52 (0, 0)) (by (with_reducible repeat (first | refine blk_drewN ?_ _ | refine blk_drew ?_ | refine blk_alloc ?_ _)); exact BK167.out) NB167_0.out (by simp)); have n2_ := Aside0.mk (KeepBut.trans zk hk (.inl rfl)); have n3_ := Aside0.mk (hb); have n4_ := Aside0.mk (hi); clear BK140; clear BK167; clear HK; clear HB; clear HI0; have BK140 := n0_; have BK167 := n1_; have HK := n2_; have HB := n3_; have HI0 := n4_; clear n0_ n1_ n2_ n3_ n4_; (try clear hb); (try clear hb2); (try clear hk); (try clear hi); (try simp only [errW_none, errW_some]); have hcz49_0 : w48.cell? ⟨gb167, 0, none⟩ = some (.int .i64 (wrap64 (t141))) := (blk_cell BK167.out 0).trans rfl; have hcz49_1 : w48.cell? ⟨gb167, 1, none⟩ = some (.string t163) := (blk_cell BK167.out 1).trans rfl; have hfz49_0 := blk_frozen BK167.out 0; have hfz49_1 := blk_frozen BK167.out 1; have hnb50 := NB140_0.out; have hnc50 := NB0_140.out; have hcz51_0 : w48.cell? ⟨gb140, 0, none⟩ = some (.int .i64 0) := (blk_cell BK140.out 0).trans rfl; have hcz51_1 : w48.cell? ⟨gb140, 1, none⟩ = some (.string (⟨#[]⟩ : ByteArray)) := (blk_cell BK140.out 1).trans rfl; have hfz51_0 := blk_frozen BK140.out 0; have hfz51_1 := blk_frozen BK140.out 1))
         refine bodyPost_ret (results_cell_row rfl _ _ gb140 52 #[.int .i64 (wrap64 (t141)), .string t163] (0, 0) _ rfl (by (with_reducible repeat (first | refine blk_drewN ?_ _ | refine blk_drew ?_ | refine blk_alloc ?_ _)); refine blk_put (cs := #[.int .i64 (wrap64 (t141)), .string (⟨#[]⟩ : ByteArray)]) ?_ 1 _ rfl; (with_reducible repeat (first | refine blk_drewN ?_ _ | refine blk_drew ?_ | refine blk_alloc ?_ _)); refine blk_put (cs := #[.int .i64 0, .string (⟨#[]⟩ : ByteArray)]) ?_ 0 _ rfl; (with_reducible repeat (first | refine blk_drewN ?_ _ | refine blk_drew ?_ | refine blk_alloc ?_ _)); exact BK140.out) Try.underlying52 rfl (by kernel_rfl)) rfl ?_
         exact ⟨ze, zi2, zb, zk⟩
       ·replace c25 := Bool.eq_false_iff.mpr c25
        subst c25
        have H1 : ((cursor_Cursor_Fail.f t169 t170 t171 5).bind fun bt178 => (some ((wrap64 (t141)), t163, bt178.1, bt178.2.1, bt178.2.2))) = some (r1, r2, r3, r4, r5) := by rw [if_neg (show ¬ (false = true) by decide)] at H; exact H
        clear H
        have H := H1
        clear H1
        replace H := Option.bind_eq_some_iff.mp H
        obtain ⟨⟨t178, t179, t180⟩, A520, H⟩ := H
        replace H : (some ((wrap64 (t141)), t163, t178, t179, t180)) = some (r1, r2, r3, r4, r5) := H
        have A52 := Aside0.mk A520
        clear A520
        simp only [Option.some.injEq, Prod.mk.injEq] at H
        obtain ⟨rfl, rfl, rfl, rfl, rfl⟩ := H
        go_wp2_with (first | ((with_reducible refine gate_callee (f := 65) rfl ?_); refine goesL_ (some 32) rfl rfl Try.func65 (by kernel_rfl) rfl #[.pointer (some ⟨g, 0, none⟩), .int .i64 t148] rfl zm ?_; (with_reducible refine (cursor_Cursor_Bytes.calls g x1000_17 x1001_17 x1002_17 t148 t163 t164 t165 t166 w0 _ ?side1 ?side2 A22.out).mono ?_); (case side1 => exact zi2); (case side2 => exact zb); rintro e w53 ⟨rfl, hi, hb, hk⟩; refine ⟨_, rfl, ?_⟩; have n0_ := Aside0.mk (KeepBut.blk hk (g' := gb140) (o := .cells #[.int .i64 0, .string (⟨#[]⟩ : ByteArray)] 52 (0, 0)) (by (with_reducible repeat (first | refine blk_drewN ?_ _ | refine blk_drew ?_ | refine blk_alloc ?_ _)); exact BK140.out) NB140_0.out (by simp)); have n1_ := Aside0.mk (KeepBut.trans zk hk (.inl rfl)); have n2_ := Aside0.mk (hb); have n3_ := Aside0.mk (hi); clear BK140; clear HK; clear HB; clear HI0; have BK140 := n0_; have HK := n1_; have HB := n2_; have HI0 := n3_; clear n0_ n1_ n2_ n3_; (try clear hb); (try clear hb2); (try clear hk); (try clear hi); (try simp only [errW_none, errW_some])) | ((with_reducible refine gate_dst (N := 5) rfl ?_); refine box_event ?hg (N := 5) ?hd (cs := #[.int .i64 0, .string (⟨#[]⟩ : ByteArray)]) (t := 52) ?hr ?_; (case hd => rfl); (case hg => rfl); (case hr => first | (go_simp; done) | (go_simp; rfl)); intro gb167 hg w54 hbox hb; have n0_ := Aside0.mk (blk_below (g := gb140) (o := .cells #[.int .i64 0, .string (⟨#[]⟩ : ByteArray)] 52 (0, 0)) (by (with_reducible repeat (first | refine blk_drewN ?_ _ | refine blk_drew ?_ | refine blk_alloc ?_ _)); exact BK140.out) hb); have n1_ := Aside0.mk (IsS122.below zi2 hb); have n2_ := Aside0.mk (KeepBut.trans zk (KeepBut.of_below hb g none) (.inl rfl)); have n3_ := Aside0.mk (below_step zb hb); have n4_ := Aside0.mk (hbox); have n5_ := Aside0.mk ((by rw [hg]; exact (keep_size (w := w) (g := g) (row := none) zk) : w.heap.size ≤ gb167)); have n6_ := Aside0.mk ((Nat.le_trans HW0.out (by rw [hg]; exact (keep_size (w := w) (g := g) (row := none) zk) : w.heap.size ≤ gb167) : w0.heap.size ≤ gb167)); have n7_ := Aside0.mk ((by rw [hg]; exact Nat.ne_of_lt (blk_lt (g := gb140) (o := .cells #[.int .i64 0, .string (⟨#[]⟩ : ByteArray)] 52 (0, 0)) (by (with_reducible repeat (first | refine blk_drewN ?_ _ | refine blk_drew ?_ | refine blk_alloc ?_ _)); exact BK140.out)) : gb140 ≠ gb167)); have n8_ := Aside0.mk ((by rw [hg]; exact Nat.ne_of_gt (blk_lt (g := gb140) (o := .cells #[.int .i64 0, .string (⟨#[]⟩ : ByteArray)] 52 (0, 0)) (by (with_reducible repeat (first | refine blk_drewN ?_ _ | refine blk_drew ?_ | refine blk_alloc ?_ _)); exact BK140.out)) : gb167 ≠ gb140)); have n9_ := Aside0.mk ((by rw [hg]; exact Nat.ne_of_lt (IsS122.lt (show IsS122 w0 _ g t164 t165 t166 from zi2)) : g ≠ gb167)); have n10_ := Aside0.mk ((by rw [hg]; exact Nat.ne_of_gt (IsS122.lt (show IsS122 w0 _ g t164 t165 t166 from zi2)) : gb167 ≠ g)); clear BK140; clear HI0; clear HK; clear HB; have BK140 := n0_; have HI0 := n1_; have HK := n2_; have HB := n3_; have BK167 := n4_; have GW167 := n5_; have GE167 := n6_; have NB140_167 := n7_; have NB167_140 := n8_; have NB0_167 := n9_; have NB167_0 := n10_; clear n0_ n1_ n2_ n3_ n4_ n5_ n6_ n7_ n8_ n9_ n10_; clear hb hbox hg; have hnb55 := NB167_140.out; have hnc55 := NB140_167.out; have hnb56 := NB167_0.out; have hnc56 := NB0_167.out; have hcz57_0 : w54.cell? ⟨gb167, 0, none⟩ = some (.int .i64 0) := (blk_cell BK167.out 0).trans rfl; have hcz57_1 : w54.cell? ⟨gb167, 1, none⟩ = some (.string (⟨#[]⟩ : ByteArray)) := (blk_cell BK167.out 1).trans rfl; have hfz57_0 := blk_frozen BK167.out 0; have hfz57_1 := blk_frozen BK167.out 1) | ((with_reducible refine gate_callee (f := 65) rfl ?_); refine goesL_ (some 36) rfl rfl Try.func65 (by kernel_rfl) rfl #[.pointer (some ⟨g, 0, none⟩), .int .i64 4] rfl zm ?_; (with_reducible refine (cursor_Cursor_Bytes.calls g t164 t165 t166 4 t168 t169 t170 t171 w0 _ ?side1 ?side2 A23.out).mono ?_); (case side1 => exact zi2); (case side2 => exact zb); rintro e w58 ⟨rfl, hi, hb, hk⟩; refine ⟨_, rfl, ?_⟩; have n0_ := Aside0.mk (KeepBut.blk hk (g' := gb140) (o := .cells #[.int .i64 0, .string (⟨#[]⟩ : ByteArray)] 52 (0, 0)) (by (with_reducible repeat (first | refine blk_drewN ?_ _ | refine blk_drew ?_ | refine blk_alloc ?_ _)); refine blk_far ?_ NB140_167.out _; (with_reducible repeat (first | refine blk_drewN ?_ _ | refine blk_drew ?_ | refine blk_alloc ?_ _)); refine blk_far ?_ NB140_167.out _; (with_reducible repeat (first | refine blk_drewN ?_ _ | refine blk_drew ?_ | refine blk_alloc ?_ _)); exact BK140.out) NB140_0.out (by simp)); have n1_ := Aside0.mk (KeepBut.blk hk (g' := gb167) (o := .cells #[.int .i64 (wrap64 (t141)), .string t163] 52 (0, 0)) (by (with_reducible repeat (first | refine blk_drewN ?_ _ | refine blk_drew ?_ | refine blk_alloc ?_ _)); refine blk_put (cs := #[.int .i64 (wrap64 (t141)), .string (⟨#[]⟩ : ByteArray)]) ?_ 1 _ rfl; (with_reducible repeat (first | refine blk_drewN ?_ _ | refine blk_drew ?_ | refine blk_alloc ?_ _)); refine blk_put (cs := #[.int .i64 0, .string (⟨#[]⟩ : ByteArray)]) ?_ 0 _ rfl; (with_reducible repeat (first | refine blk_drewN ?_ _ | refine blk_drew ?_ | refine blk_alloc ?_ _)); exact BK167.out) NB167_0.out (by simp)); have n2_ := Aside0.mk (KeepBut.trans zk hk (.inl rfl)); have n3_ := Aside0.mk (hb); have n4_ := Aside0.mk (hi); clear BK140; clear BK167; clear HK; clear HB; clear HI0; have BK140 := n0_; have BK167 := n1_; have HK := n2_; have HB := n3_; have HI0 := n4_; clear n0_ n1_ n2_ n3_ n4_; (try clear hb); (try clear hb2); (try clear hk); (try clear hi); (try simp only [errW_none, errW_some])) | ((with_reducible refine gate_callee (f := 23) rfl ?_); refine goesL_ (some 37) rfl rfl Try.func23 (by kernel_rfl) rfl #[.string t168] rfl zm ?_; (with_reducible refine (crc_Get.calls t168 t172 false _ A24.out).mono ?_); rintro e w' ⟨rfl, ⟨nd, rfl⟩⟩; refine ⟨_, rfl, ?_⟩; (try (rw [drewN_self w58]; generalize hq_ : World.drewN w58 _ = w58; have n0_ : Aside0 (w58.heap[gb140]? = some (.cells #[.int .i64 0, .string (⟨#[]⟩ : ByteArray)] 52 (0, 0))) := ⟨by rw [← hq_]; exact (by (with_reducible repeat (first | refine blk_drewN ?_ _ | refine blk_drew ?_ | refine blk_alloc ?_ _)); exact BK140.out)⟩; have n1_ : Aside0 (w58.heap[gb167]? = some (.cells #[.int .i64 (wrap64 (t141)), .string t163] 52 (0, 0))) := ⟨by rw [← hq_]; exact (by (with_reducible repeat (first | refine blk_drewN ?_ _ | refine blk_drew ?_ | refine blk_alloc ?_ _)); exact BK167.out)⟩; have n2_ : Aside0 (IsS122 w0 w58 g t169 t170 t171) := ⟨by rw [← hq_]; exact zi2⟩; have n3_ : Aside0 (KeepBut w w58 g none) := ⟨by rw [← hq_]; exact zk⟩; have n4_ : Aside0 (Below w0.heap.size w0 w58) := ⟨by rw [← hq_]; exact zb⟩; clear BK140 BK167 HI0 HK HB hq_; have BK140 := n0_; have BK167 := n1_; have HI0 := n2_; have HK := n3_; have HB := n4_; clear n0_ n1_ n2_ n3_ n4_))) | ((with_reducible refine gate_callee (f := 52) rfl ?_); refine goesL_ (some 50) rfl rfl Try.func52 (by kernel_rfl) rfl #[.pointer (some ⟨g, 0, none⟩), .int .i64 5] rfl zm ?_; (with_reducible refine (cursor_Cursor_Fail.calls g t169 t170 t171 5 t178 t179 t180 w0 _ ?side1 ?side2 A52.out).mono ?_); (case side1 => exact zi2); (case side2 => exact zb); rintro e w59 ⟨rfl, hi, hb, hk⟩; refine ⟨_, rfl, ?_⟩; have n0_ := Aside0.mk (KeepBut.blk hk (g' := gb140) (o := .cells #[.int .i64 0, .string (⟨#[]⟩ : ByteArray)] 52 (0, 0)) (by (with_reducible repeat (first | refine blk_drewN ?_ _ | refine blk_drew ?_ | refine blk_alloc ?_ _)); exact BK140.out) NB140_0.out (by simp)); have n1_ := Aside0.mk (KeepBut.blk hk (g' := gb167) (o := .cells #[.int .i64 (wrap64 (t141)), .string t163] 52 (0, 0)) (by (with_reducible repeat (first | refine blk_drewN ?_ _ | refine blk_drew ?_ | refine blk_alloc ?_ _)); exact BK167.out) NB167_0.out (by simp)); have n2_ := Aside0.mk (KeepBut.trans zk hk (.inl rfl)); have n3_ := Aside0.mk (hb); have n4_ := Aside0.mk (hi); clear BK140; clear BK167; clear HK; clear HB; clear HI0; have BK140 := n0_; have BK167 := n1_; have HK := n2_; have HB := n3_; have HI0 := n4_; clear n0_ n1_ n2_ n3_ n4_; (try clear hb); (try clear hb2); (try clear hk); (try clear hi); (try simp only [errW_none, errW_some]); have hcz60_0 : w59.cell? ⟨gb167, 0, none⟩ = some (.int .i64 (wrap64 (t141))) := (blk_cell BK167.out 0).trans rfl; have hcz60_1 : w59.cell? ⟨gb167, 1, none⟩ = some (.string t163) := (blk_cell BK167.out 1).trans rfl; have hfz60_0 := blk_frozen BK167.out 0; have hfz60_1 := blk_frozen BK167.out 1; have hnb61 := NB140_0.out; have hnc61 := NB0_140.out; have hcz62_0 : w59.cell? ⟨gb140, 0, none⟩ = some (.int .i64 0) := (blk_cell BK140.out 0).trans rfl; have hcz62_1 : w59.cell? ⟨gb140, 1, none⟩ = some (.string (⟨#[]⟩ : ByteArray)) := (blk_cell BK140.out 1).trans rfl; have hfz62_0 := blk_frozen BK140.out 0; have hfz62_1 := blk_frozen BK140.out 1))
        refine bodyPost_ret (results_cell_row rfl _ _ gb140 52 #[.int .i64 (wrap64 (t141)), .string t163] (0, 0) _ rfl (by (with_reducible repeat (first | refine blk_drewN ?_ _ | refine blk_drew ?_ | refine blk_alloc ?_ _)); refine blk_put (cs := #[.int .i64 (wrap64 (t141)), .string (⟨#[]⟩ : ByteArray)]) ?_ 1 _ rfl; (with_reducible repeat (first | refine blk_drewN ?_ _ | refine blk_drew ?_ | refine blk_alloc ?_ _)); refine blk_put (cs := #[.int .i64 0, .string (⟨#[]⟩ : ByteArray)]) ?_ 0 _ rfl; (with_reducible repeat (first | refine blk_drewN ?_ _ | refine blk_drew ?_ | refine blk_alloc ?_ _)); exact BK140.out) Try.underlying52 rfl (by kernel_rfl)) rfl ?_
        exact ⟨ze, zi2, zb, zk⟩
mutual
def frame_Get.j0 : Nat → ByteArray → Bool → Option (Int × (List (S52)) × Int)
 | 0, _, _ => none
 | k + 1, x7, x25 => if x25 = true then (some (0, ([] : List (S52)), 6)) else ((cursor_New.f x7).bind fun bt183 => ((cursor_Cursor_Byte.f bt183.1 bt183.2.1 bt183.2.2).bind fun bt187 => (if (wrap64 (bt187.1)) = 0 then ((cursor_Cursor_Fail.f bt187.2.1 bt187.2.2.1 bt187.2.2.2 7).bind fun bt191 => (frame_Get.j1 k (wrap64 (bt187.1)) bt191.1 bt191.2.1 bt191.2.2)) else (frame_Get.j1 k (wrap64 (bt187.1)) bt187.2.1 bt187.2.2.1 bt187.2.2.2))))
def frame_Get.j1 : Nat → Int → ByteArray → Int → Option Int → Option (Int × (List (S52)) × Int)
 | 0, _, _, _, _ => none
 | k + 1, x10, x187000, x187001, x187002 => frame_Get.l0 k x10 ([] : List (S52)) x187000 x187001 x187002
def frame_Get.l0 : Nat → Int → List (S52) → ByteArray → Int → Option Int → Option (Int × (List (S52)) × Int)
 | 0, _, _, _, _, _ => none
 | k + 1, x10, x11, x187000, x187001, x187002 => (cursor_Cursor_Err.f x187000 x187001 x187002).bind fun bt194 => (if bt194.1 = 0 then ((cursor_Cursor_Left.f bt194.2.1 bt194.2.2.1 bt194.2.2.2).bind fun bt198 => (frame_Get.j3 k x10 x11 (decide (bt198.1 > 0)) bt198.2.1 bt198.2.2.1 bt198.2.2.2)) else (frame_Get.j3 k x10 x11 false bt194.2.1 bt194.2.2.1 bt194.2.2.2))
def frame_Get.j3 : Nat → Int → List (S52) → Bool → ByteArray → Int → Option Int → Option (Int × (List (S52)) × Int)
 | 0, _, _, _, _, _, _ => none
 | k + 1, x10, x11, x42, x187000, x187001, x187002 => if x42 = true then (if (x11.length : Int) = 8 then (some (0, ([] : List (S52)), 8)) else ((frame_section.f k x187000 x187001 x187002).bind fun bt202 => (if x11.length < 5864062014805 then (frame_Get.l0 k x10 (x11 ++ [(⟨bt202.1, bt202.2.1⟩ : S52)]) bt202.2.2.1 bt202.2.2.2.1 bt202.2.2.2.2) else (none)))) else ((cursor_Cursor_Err.f x187000 x187001 x187002).bind fun bt210 => (if bt210.1 = 0 then (some (x10, x11, 0)) else (some (0, ([] : List (S52)), bt210.1))))
end
def frame_Get.f (k : Nat) (a0 : ByteArray) (a1 : ByteArray) : Option (Int × (List (S52)) × Int) := (strings_CutPrefix.f a1 a0).bind fun bt181 => (if (a0.size : Int) = 4 then (frame_Get.j0 k bt181.1 (!bt181.2)) else (frame_Get.j0 k bt181.1 true))
theorem frame_Get.mono_l : ∀ k, (∀ y0 y1, LeO (frame_Get.j0 k y0 y1) (frame_Get.j0 (k + 1) y0 y1)) ∧ (∀ y0 y1 y2 y3, LeO (frame_Get.j1 k y0 y1 y2 y3) (frame_Get.j1 (k + 1) y0 y1 y2 y3)) ∧ (∀ y0 y1 y2 y3 y4, LeO (frame_Get.l0 k y0 y1 y2 y3 y4) (frame_Get.l0 (k + 1) y0 y1 y2 y3 y4)) ∧ (∀ y0 y1 y2 y3 y4 y5, LeO (frame_Get.j3 k y0 y1 y2 y3 y4 y5) (frame_Get.j3 (k + 1) y0 y1 y2 y3 y4 y5))
 | 0 => ⟨fun _ _ r h => by simp [frame_Get.j0] at h, fun _ _ _ _ r h => by simp [frame_Get.j1] at h, fun _ _ _ _ _ r h => by simp [frame_Get.l0] at h, fun _ _ _ _ _ _ r h => by simp [frame_Get.j3] at h⟩
 | k + 1 => by
  obtain ⟨ih0, ih1, ih2, ih3⟩ := frame_Get.mono_l k
  refine ⟨?_, ?_, ?_, ?_⟩
  ·intro y0 y1
   unfold frame_Get.j0
   repeat' first
   | (with_reducible exact ih0 _ _)
   | (with_reducible exact ih1 _ _ _ _)
   | (with_reducible exact ih2 _ _ _ _ _)
   | (with_reducible exact ih3 _ _ _ _ _ _)
   | (with_reducible exact frame_section.mono _ _ _ _)
   | (with_reducible exact LeO.refl _)
   | (with_reducible exact LeO.none _)
   | (with_reducible refine LeO.ite ?_ ?_)
   | (with_reducible refine LeO.bind ?_ (fun _ => ?_))
   | exact ih0 _ _
   | exact ih1 _ _ _ _
   | exact ih2 _ _ _ _ _
   | exact ih3 _ _ _ _ _ _
   | exact frame_section.mono _ _ _ _
   | exact LeO.none _
   | refine LeO.ite ?_ ?_
   | refine LeO.bind ?_ (fun _ => ?_)
  ·intro y0 y1 y2 y3
   unfold frame_Get.j1
   repeat' first
   | (with_reducible exact ih0 _ _)
   | (with_reducible exact ih1 _ _ _ _)
   | (with_reducible exact ih2 _ _ _ _ _)
   | (with_reducible exact ih3 _ _ _ _ _ _)
   | (with_reducible exact frame_section.mono _ _ _ _)
   | (with_reducible exact LeO.refl _)
   | (with_reducible exact LeO.none _)
   | (with_reducible refine LeO.ite ?_ ?_)
   | (with_reducible refine LeO.bind ?_ (fun _ => ?_))
   | exact ih0 _ _
   | exact ih1 _ _ _ _
   | exact ih2 _ _ _ _ _
   | exact ih3 _ _ _ _ _ _
   | exact frame_section.mono _ _ _ _
   | exact LeO.none _
   | refine LeO.ite ?_ ?_
   | refine LeO.bind ?_ (fun _ => ?_)
  ·intro y0 y1 y2 y3 y4
   unfold frame_Get.l0
   repeat' first
   | (with_reducible exact ih0 _ _)
   | (with_reducible exact ih1 _ _ _ _)
   | (with_reducible exact ih2 _ _ _ _ _)
   | (with_reducible exact ih3 _ _ _ _ _ _)
   | (with_reducible exact frame_section.mono _ _ _ _)
   | (with_reducible exact LeO.refl _)
   | (with_reducible exact LeO.none _)
   | (with_reducible refine LeO.ite ?_ ?_)
   | (with_reducible refine LeO.bind ?_ (fun _ => ?_))
   | exact ih0 _ _
   | exact ih1 _ _ _ _
   | exact ih2 _ _ _ _ _
   | exact ih3 _ _ _ _ _ _
   | exact frame_section.mono _ _ _ _
   | exact LeO.none _
   | refine LeO.ite ?_ ?_
   | refine LeO.bind ?_ (fun _ => ?_)
  ·intro y0 y1 y2 y3 y4 y5
   unfold frame_Get.j3
   repeat' first
   | (with_reducible exact ih0 _ _)
   | (with_reducible exact ih1 _ _ _ _)
   | (with_reducible exact ih2 _ _ _ _ _)
   | (with_reducible exact ih3 _ _ _ _ _ _)
   | (with_reducible exact frame_section.mono _ _ _ _)
   | (with_reducible exact LeO.refl _)
   | (with_reducible exact LeO.none _)
   | (with_reducible refine LeO.ite ?_ ?_)
   | (with_reducible refine LeO.bind ?_ (fun _ => ?_))
   | exact ih0 _ _
   | exact ih1 _ _ _ _
   | exact ih2 _ _ _ _ _
   | exact ih3 _ _ _ _ _ _
   | exact frame_section.mono _ _ _ _
   | exact LeO.none _
   | refine LeO.ite ?_ ?_
   | refine LeO.bind ?_ (fun _ => ?_)
theorem frame_Get.mono : ∀ a0 a1 k, LeO (frame_Get.f k a0 a1) (frame_Get.f (k + 1) a0 a1) := by
 intro a0 a1 k
 obtain ⟨ih0, ih1, ih2, ih3⟩ := frame_Get.mono_l k
 unfold frame_Get.f
 repeat' first
   | (with_reducible exact ih0 _ _)
   | (with_reducible exact ih1 _ _ _ _)
   | (with_reducible exact ih2 _ _ _ _ _)
   | (with_reducible exact ih3 _ _ _ _ _ _)
   | (with_reducible exact frame_section.mono _ _ _ _)
   | (with_reducible exact LeO.refl _)
   | (with_reducible exact LeO.none _)
   | (with_reducible refine LeO.ite ?_ ?_)
   | (with_reducible refine LeO.bind ?_ (fun _ => ?_))
   | exact ih0 _ _
   | exact ih1 _ _ _ _
   | exact ih2 _ _ _ _ _
   | exact ih3 _ _ _ _ _ _
   | exact frame_section.mono _ _ _ _
   | exact LeO.none _
   | refine LeO.ite ?_ ?_
   | refine LeO.bind ?_ (fun _ => ?_)
set_option maxHeartbeats 8000000 in
set_option maxRecDepth 100000 in
theorem frame_Get.calls (k : Nat) (a0 : ByteArray) (a1 : ByteArray) (r1 : Int) (r2 : List (S52)) (r3 : Int) (w : World) (h : frame_Get.f k a0 a1 = some (r1, r2, r3)) :
  Calls Try.prog 32 #[.string a0, .string a1] w fun e w' => ∃ v1_ : Value, e = .returned (.tuple #[.int .i64 r1, v1_, .int .i64 r3]) ∧ Kd.R k52 52 w' w.heap.size (fun _ => True) v1_ r2 ∧ Below w.heap.size w w' := by
 have HB := Aside0.mk (Below.refl w.heap.size w)
 have H : ((strings_CutPrefix.f a1 a0).bind fun bt181 => (if (a0.size : Int) = 4 then (frame_Get.j0 k bt181.1 (!bt181.2)) else (frame_Get.j0 k bt181.1 true))) = some (r1, r2, r3) := h
 clear h
 replace H := Option.bind_eq_some_iff.mp H
 obtain ⟨⟨t181, t182⟩, A30, H⟩ := H
 replace H : (if (a0.size : Int) = 4 then (frame_Get.j0 k t181 (!t182)) else (frame_Get.j0 k t181 true)) = some (r1, r2, r3) := H
 have A3 := Aside0.mk A30
 clear A30
 have HC4 := Aside0.mk H
 clear H
 go_enter Try.func32, Try.ntmps32
 go_upto_region 2 with (first | ((with_reducible refine gate_callee (f := 49) rfl ?_); refine goesL_ (some 16) rfl rfl Try.func49 (by kernel_rfl) rfl #[.string a1, .string a0] rfl zm ?_; (with_reducible refine (strings_CutPrefix.calls a1 a0 t181 t182 _ A3.out).mono ?_); rintro e w' ⟨rfl, ⟨nd, rfl⟩⟩; refine ⟨_, rfl, ?_⟩))
 (try simp only [Act.put, zq1, zq2, zq3])
 go_cut [25] (fun v25 wc => ∃ (kq : Nat) (x25_3 : Bool), v25 = .bool x25_3 ∧ Aside0 (frame_Get.j0 kq t181 x25_3 = some (r1, r2, r3)) ∧ Aside0 (kq ≤ k) ∧ Aside0 (Below w.heap.size w wc))
 case first =>
  have H := HC4.out
  clear HC4
  by_cases c5 : (a0.size : Int) = 4
  ·rw [if_pos c5] at H
   have c5b0 : ((a0.size : Int) == 4) = true := beq_iff_eq.mpr c5
   have c5b1 : ((a0.size : Int) != 4) = false := bne_eq_false_iff_eq.mpr c5
   clear c5
   (first | rw [c5b0] | (simp only [i64_w]; rw [c5b0]) | skip)
   have H' := Aside0.mk H
   clear H
   go_wp2
   go_meet
   case rel => exact ⟨_, (!t182), zr, H', ⟨by first | omega | exact Nat.le_refl _⟩, ⟨zb⟩⟩
  ·rw [if_neg c5] at H
   have c5b0 : ((a0.size : Int) == 4) = false := beq_eq_false_iff_ne.mpr c5
   have c5b1 : ((a0.size : Int) != 4) = true := bne_iff_ne.mpr c5
   (first | rw [c5b0] | (simp only [i64_w]; rw [c5b0]) | skip)
   have H' := Aside0.mk H
   clear H
   go_wp2
   go_meet
   case rel => exact ⟨_, (true), zr, H', ⟨by first | omega | exact Nat.le_refl _⟩, ⟨zb⟩⟩
 case rest =>
  clear HC4
  try clear p2
  try clear c3
  try clear c4
  try clear c5
  try clear c5b0
  try clear c5b1
  obtain ⟨kq, x25_3, rfl, HA, HJ3, HB⟩ := hcut
  cases kq with
  | zero => exact absurd HA.out (by simp [frame_Get.j0])
  | succ kj3 =>
   have H := HA.out
   clear HA
   simp only [frame_Get.j0] at H
   by_cases c6 : x25_3 = true
   ·subst c6
    have H1 : (some (0, ([] : List (S52)), 6)) = some (r1, r2, r3) := by rw [if_pos rfl] at H; exact H
    clear H
    have H := H1
    clear H1
    simp only [Option.some.injEq, Prod.mk.injEq] at H
    obtain ⟨rfl, rfl, rfl⟩ := H
    go_wp2
    go_ret3
    exact ⟨_, by first | rfl | (simp [errW_none, errW_some] <;> rfl) | (simp [*, errW_none, errW_some] <;> rfl), by first | exact Kd.R_nil _ _ _ _ _ | exact Kd.N_nil _ _ _ _ _ | exact Kd.V_nil _ _ _ _ _ | exact Kd.Q_nil _ _ _ _ _ | exact Kd.S_nil _ _ _ _ _, zb⟩
   ·replace c6 := Bool.eq_false_iff.mpr c6
    subst c6
    have H1 : ((cursor_New.f t181).bind fun bt183 => ((cursor_Cursor_Byte.f bt183.1 bt183.2.1 bt183.2.2).bind fun bt187 => (if (wrap64 (bt187.1)) = 0 then ((cursor_Cursor_Fail.f bt187.2.1 bt187.2.2.1 bt187.2.2.2 7).bind fun bt191 => (frame_Get.j1 kj3 (wrap64 (bt187.1)) bt191.1 bt191.2.1 bt191.2.2)) else (frame_Get.j1 kj3 (wrap64 (bt187.1)) bt187.2.1 bt187.2.2.1 bt187.2.2.2)))) = some (r1, r2, r3) := by rw [if_neg (show ¬ (false = true) by decide)] at H; exact H
    clear H
    have H := H1
    clear H1
    replace H := Option.bind_eq_some_iff.mp H
    obtain ⟨⟨t183, t184, t185⟩, A70, H⟩ := H
    replace H : ((cursor_Cursor_Byte.f t183 t184 t185).bind fun bt187 => (if (wrap64 (bt187.1)) = 0 then ((cursor_Cursor_Fail.f bt187.2.1 bt187.2.2.1 bt187.2.2.2 7).bind fun bt191 => (frame_Get.j1 kj3 (wrap64 (bt187.1)) bt191.1 bt191.2.1 bt191.2.2)) else (frame_Get.j1 kj3 (wrap64 (bt187.1)) bt187.2.1 bt187.2.2.1 bt187.2.2.2))) = some (r1, r2, r3) := H
    have A7 := Aside0.mk A70
    clear A70
    replace H := Option.bind_eq_some_iff.mp H
    obtain ⟨⟨t187, t188, t189, t190⟩, A80, H⟩ := H
    replace H : (if (wrap64 (t187)) = 0 then ((cursor_Cursor_Fail.f t188 t189 t190 7).bind fun bt191 => (frame_Get.j1 kj3 (wrap64 (t187)) bt191.1 bt191.2.1 bt191.2.2)) else (frame_Get.j1 kj3 (wrap64 (t187)) t188 t189 t190)) = some (r1, r2, r3) := H
    have A8 := Aside0.mk A80
    clear A80
    have HC9 := Aside0.mk H
    clear H
    go_upto_if 32 with (first | ((with_reducible refine gate_callee (f := 50) rfl ?_); refine goesL_ (some 27) rfl rfl Try.func50 (by kernel_rfl) rfl #[.string t181] rfl zm ?_; (with_reducible refine (cursor_New.calls t181 t183 t184 t185 w _ ?side1 A7.out).mono ?_); (case side1 => exact zb); rintro e w10 ⟨g186, rfl, hi, hb, hb2⟩; refine ⟨_, rfl, ?_⟩; have n0_ := Aside0.mk (hb); have n1_ := Aside0.mk (hi); clear HB; have HB := n0_; have HI186 := n1_; clear n0_ n1_; (try clear hb); (try clear hb2); (try clear hk); (try clear hi); (try simp only [errW_none, errW_some])) | ((with_reducible refine gate_callee (f := 51) rfl ?_); refine goesL_ (some 29) rfl rfl Try.func51 (by kernel_rfl) rfl #[.pointer (some ⟨g186, 0, none⟩)] rfl zm ?_; (with_reducible refine (cursor_Cursor_Byte.calls g186 t183 t184 t185 t187 t188 t189 t190 w _ ?side1 ?side2 A8.out).mono ?_); (case side1 => exact zj2); (case side2 => exact zb); rintro e w11 ⟨rfl, hi, hb, hk⟩; refine ⟨_, rfl, ?_⟩; have n0_ := Aside0.mk (hb); have n1_ := Aside0.mk (hi); clear HB; clear HI186; have HB := n0_; have HI186 := n1_; clear n0_ n1_; (try clear hb); (try clear hb2); (try clear hk); (try clear hi); (try simp only [errW_none, errW_some])))
    (try simp only [Act.put, zq1, zq2, zq3])
    go_cut [] (fun wc => ∃ (kq : Nat) (x187000_8 : ByteArray) (x187001_8 : Int) (x187002_8 : Option Int), Aside0 (frame_Get.j1 kq (wrap64 (t187)) x187000_8 x187001_8 x187002_8 = some (r1, r2, r3)) ∧ Aside0 (kq ≤ kj3) ∧ Aside0 (IsS122 w wc g186 x187000_8 x187001_8 x187002_8) ∧ Aside0 (Below w.heap.size w wc))
    case first =>
     have H := HC9.out
     clear HC9
     by_cases c12 : (wrap64 (t187)) = 0
     ·rw [if_pos c12] at H
      have c12b0 : ((wrap64 (t187)) == 0) = true := beq_iff_eq.mpr c12
      have c12b1 : ((wrap64 (t187)) != 0) = false := bne_eq_false_iff_eq.mpr c12
      clear c12
      (first | rw [c12b0] | (simp only [i64_w]; rw [c12b0]) | skip)
      replace H := Option.bind_eq_some_iff.mp H
      obtain ⟨⟨t191, t192, t193⟩, A130, H⟩ := H
      replace H : (frame_Get.j1 kj3 (wrap64 (t187)) t191 t192 t193) = some (r1, r2, r3) := H
      have A13 := Aside0.mk A130
      clear A130
      have H' := Aside0.mk H
      clear H
      go_wp2_with (first | ((with_reducible refine gate_callee (f := 52) rfl ?_); refine goesL_ (some 34) rfl rfl Try.func52 (by kernel_rfl) rfl #[.pointer (some ⟨g186, 0, none⟩), .int .i64 7] rfl zm ?_; (with_reducible refine (cursor_Cursor_Fail.calls g186 t188 t189 t190 7 t191 t192 t193 w _ ?side1 ?side2 A13.out).mono ?_); (case side1 => exact zj2); (case side2 => exact zb); rintro e w14 ⟨rfl, hi, hb, hk⟩; refine ⟨_, rfl, ?_⟩; have n0_ := Aside0.mk (hb); have n1_ := Aside0.mk (hi); clear HB; clear HI186; have HB := n0_; have HI186 := n1_; clear n0_ n1_; (try clear hb); (try clear hb2); (try clear hk); (try clear hi); (try simp only [errW_none, errW_some])))
      go_meet
      case rel => exact ⟨_, (t191), (t192), (t193), H', ⟨by have := HJ3.out; first | omega | exact Nat.le_refl _⟩, ⟨zj2⟩, ⟨zb⟩⟩
     ·rw [if_neg c12] at H
      have c12b0 : ((wrap64 (t187)) == 0) = false := beq_eq_false_iff_ne.mpr c12
      have c12b1 : ((wrap64 (t187)) != 0) = true := bne_iff_ne.mpr c12
      (first | rw [c12b0] | (simp only [i64_w]; rw [c12b0]) | skip)
      have H' := Aside0.mk H
      clear H
      go_wp2
      go_meet
      case rel => exact ⟨_, (t188), (t189), (t190), H', ⟨by have := HJ3.out; first | omega | exact Nat.le_refl _⟩, ⟨zj2⟩, ⟨zb⟩⟩
    case rest =>
     clear HC9
     try clear c1
     try clear p2
     try clear c3
     try clear c4
     try clear c5
     try clear c5b0
     try clear c5b1
     try clear c6
     try clear p6
     try clear c12
     try clear c12b0
     try clear c12b1
     try clear p2
     obtain ⟨kq, x187000_8, x187001_8, x187002_8, HA, HJ8, HI186, HB⟩ := hcut
     cases kq with
     | zero => exact absurd HA.out (by simp [frame_Get.j1])
     | succ kj8 =>
      have H := HA.out
      clear HA
      simp only [frame_Get.j1] at H
      have H' := Aside0.mk H
      clear H
      go_wp2
      go_loopg [11] kj8 (fun kq v11 w' => ∃ (x11_3 : List (S52)) (x187000_3 : ByteArray) (x187001_3 : Int) (x187002_3 : Option Int), Aside0 (frame_Get.l0 kq (wrap64 (t187)) x11_3 x187000_3 x187001_3 x187002_3 = some (r1, r2, r3)) ∧ Aside0 (kq ≤ kj8) ∧ Aside0 (Kd.R k52 52 w' w.heap.size (fun _ => True) v11 x11_3) ∧ Aside0 (IsS122 w w' g186 x187000_3 x187001_3 x187002_3) ∧ Aside0 (Below w.heap.size w w'))
      case atStart => exact ⟨(([] : List (S52))), (x187000_8), (x187001_8), (x187002_8), H', ⟨Nat.le_refl _⟩, ⟨by first | exact Kd.R_nil _ _ _ _ _ | exact Kd.N_nil _ _ _ _ _ | exact Kd.V_nil _ _ _ _ _ | exact Kd.Q_nil _ _ _ _ _ | exact Kd.S_nil _ _ _ _ _⟩, ⟨zj2⟩, ⟨zb⟩⟩
      case round =>
       clear H'
       try clear c1
       try clear p2
       try clear c3
       try clear c4
       try clear c5
       try clear c5b0
       try clear c5b1
       try clear c6
       try clear p6
       try clear c12
       try clear c12b0
       try clear c12b1
       try clear p2
       try clear p6
       obtain ⟨x11_3, x187000_3, x187001_3, x187002_3, HA, HK3, HO_11, HI186, HB⟩ := hrel
       cases gk with
       | zero => exact absurd HA.out (by simp [frame_Get.l0])
       | succ k3 =>
        have H := HA.out
        clear HA
        simp only [frame_Get.l0] at H
        have HC15 := Aside0.mk H
        clear H
        go_upto_region 9 with (fail)
        go_cut [42] (fun v42 wc => ∃ (kq : Nat) (x42_14 : Bool) (x187000_14 : ByteArray) (x187001_14 : Int) (x187002_14 : Option Int), v42 = .bool x42_14 ∧ Aside0 (frame_Get.j3 kq (wrap64 (t187)) x11_3 x42_14 x187000_14 x187001_14 x187002_14 = some (r1, r2, r3)) ∧ Aside0 (kq ≤ k3) ∧ Aside0 (Kd.R k52 52 wc w.heap.size (fun _ => True) u11 x11_3) ∧ Aside0 (IsS122 w wc g186 x187000_14 x187001_14 x187002_14) ∧ Aside0 (Below w.heap.size w wc))
        case first =>
         have H := HC15.out
         clear HC15
         replace H := Option.bind_eq_some_iff.mp H
         obtain ⟨⟨t194, t195, t196, t197⟩, A160, H⟩ := H
         replace H : (if t194 = 0 then ((cursor_Cursor_Left.f t195 t196 t197).bind fun bt198 => (frame_Get.j3 k3 (wrap64 (t187)) x11_3 (decide (bt198.1 > 0)) bt198.2.1 bt198.2.2.1 bt198.2.2.2)) else (frame_Get.j3 k3 (wrap64 (t187)) x11_3 false t195 t196 t197)) = some (r1, r2, r3) := H
         have A16 := Aside0.mk A160
         clear A160
         by_cases c17 : t194 = 0
         ·rw [if_pos c17] at H
          have c17b0 : (t194 == 0) = true := beq_iff_eq.mpr c17
          have c17b1 : (t194 != 0) = false := bne_eq_false_iff_eq.mpr c17
          clear c17
          (first | rw [c17b0] | (simp only [i64_w]; rw [c17b0]) | skip)
          replace H := Option.bind_eq_some_iff.mp H
          obtain ⟨⟨t198, t199, t200, t201⟩, A180, H⟩ := H
          replace H : (frame_Get.j3 k3 (wrap64 (t187)) x11_3 (decide (t198 > 0)) t199 t200 t201) = some (r1, r2, r3) := H
          have A18 := Aside0.mk A180
          clear A180
          have H' := Aside0.mk H
          clear H
          go_wp2_with (first | ((with_reducible refine gate_callee (f := 53) rfl ?_); refine goesL_ (some 36) rfl rfl Try.func53 (by kernel_rfl) rfl #[.pointer (some ⟨g186, 0, none⟩)] rfl zm ?_; (with_reducible refine (cursor_Cursor_Err.calls g186 x187000_3 x187001_3 x187002_3 t194 t195 t196 t197 w _ ?side1 ?side2 A16.out).mono ?_); (case side1 => exact zj2); (case side2 => exact zb); rintro e w19 ⟨rfl, hi, hb, hk⟩; refine ⟨_, rfl, ?_⟩; have n0_ := Aside0.mk (Kd.R_mono (Kd.R_keep (IsS122.apart (show IsS122 w _ g186 x187000_3 x187001_3 x187002_3 from zj2) (by (with_reducible repeat (first | apply Kd.R_alloc | apply Kd.R_drewN | apply Kd.R_drew)); exact HO_11.out) (by decide)) hk (fun _ h => h.2)) (fun _ h => h.1)); have n1_ := Aside0.mk (hb); have n2_ := Aside0.mk (hi); clear HO_11; clear HB; clear HI186; have HO_11 := n0_; have HB := n1_; have HI186 := n2_; clear n0_ n1_ n2_; (try clear hb); (try clear hb2); (try clear hk); (try clear hi); (try simp only [errW_none, errW_some])) | (go_at_call 54; (with_reducible refine (cursor_Cursor_Left.calls g186 t195 t196 t197 t198 t199 t200 t201 w _ ?side1 ?side2 A18.out).mono ?_); (case side1 => exact zj2); (case side2 => exact zb); rintro e w20 ⟨rfl, hi, hb, hk⟩; have n0_ := Aside0.mk (Kd.R_mono (Kd.R_keep (IsS122.apart (show IsS122 w _ g186 t195 t196 t197 from zj2) (by (with_reducible repeat (first | apply Kd.R_alloc | apply Kd.R_drewN | apply Kd.R_drew)); exact HO_11.out) (by decide)) hk (fun _ h => h.2)) (fun _ h => h.1)); have n1_ := Aside0.mk (hb); have n2_ := Aside0.mk (hi); clear HO_11; clear HB; clear HI186; have HO_11 := n0_; have HB := n1_; have HI186 := n2_; clear n0_ n1_ n2_; (try clear hb); (try clear hb2); (try clear hk); (try clear hi); (try simp only [errW_none, errW_some])))
          go_meet
          case rel => exact ⟨_, (decide (t198 > 0)), (t199), (t200), (t201), zr, H', ⟨by have := HJ3.out; have := HJ8.out; have := HK3.out; first | omega | exact Nat.le_refl _⟩, ⟨by (with_reducible repeat (first | apply Kd.R_alloc | apply Kd.R_drewN | apply Kd.R_drew)); exact HO_11.out⟩, ⟨zj2⟩, ⟨zb⟩⟩
         ·rw [if_neg c17] at H
          have c17b0 : (t194 == 0) = false := beq_eq_false_iff_ne.mpr c17
          have c17b1 : (t194 != 0) = true := bne_iff_ne.mpr c17
          (first | rw [c17b0] | (simp only [i64_w]; rw [c17b0]) | skip)
          have H' := Aside0.mk H
          clear H
          go_wp2_with (first | ((with_reducible refine gate_callee (f := 53) rfl ?_); refine goesL_ (some 36) rfl rfl Try.func53 (by kernel_rfl) rfl #[.pointer (some ⟨g186, 0, none⟩)] rfl zm ?_; (with_reducible refine (cursor_Cursor_Err.calls g186 x187000_3 x187001_3 x187002_3 t194 t195 t196 t197 w _ ?side1 ?side2 A16.out).mono ?_); (case side1 => exact zj2); (case side2 => exact zb); rintro e w21 ⟨rfl, hi, hb, hk⟩; refine ⟨_, rfl, ?_⟩; have n0_ := Aside0.mk (Kd.R_mono (Kd.R_keep (IsS122.apart (show IsS122 w _ g186 x187000_3 x187001_3 x187002_3 from zj2) (by (with_reducible repeat (first | apply Kd.R_alloc | apply Kd.R_drewN | apply Kd.R_drew)); exact HO_11.out) (by decide)) hk (fun _ h => h.2)) (fun _ h => h.1)); have n1_ := Aside0.mk (hb); have n2_ := Aside0.mk (hi); clear HO_11; clear HB; clear HI186; have HO_11 := n0_; have HB := n1_; have HI186 := n2_; clear n0_ n1_ n2_; (try clear hb); (try clear hb2); (try clear hk); (try clear hi); (try simp only [errW_none, errW_some])))
          go_meet
          case rel => exact ⟨_, (false), (t195), (t196), (t197), zr, H', ⟨by have := HJ3.out; have := HJ8.out; have := HK3.out; first | omega | exact Nat.le_refl _⟩, ⟨by (with_reducible repeat (first | apply Kd.R_alloc | apply Kd.R_drewN | apply Kd.R_drew)); exact HO_11.out⟩, ⟨zj2⟩, ⟨zb⟩⟩
        case rest =>
         clear HC15
         try clear c1
         try clear p2
         try clear c3
         try clear c4
         try clear c5
         try clear c5b0
         try clear c5b1
         try clear c6
         try clear p6
         try clear c12
         try clear c12b0
         try clear c12b1
         try clear c17
         try clear c17b0
         try clear c17b1
         try clear p2
         try clear p6
         obtain ⟨kq, x42_14, x187000_14, x187001_14, x187002_14, rfl, HA, HJ14, HO_11, HI186, HB⟩ := hcut
         cases kq with
         | zero => exact absurd HA.out (by simp [frame_Get.j3])
         | succ kj14 =>
          have H := HA.out
          clear HA
          simp only [frame_Get.j3] at H
          by_cases c22 : x42_14 = true
          ·subst c22
           have H1 : (if (x11_3.length : Int) = 8 then (some (0, ([] : List (S52)), 8)) else ((frame_section.f kj14 x187000_14 x187001_14 x187002_14).bind fun bt202 => (if x11_3.length < 5864062014805 then (frame_Get.l0 kj14 (wrap64 (t187)) (x11_3 ++ [(⟨bt202.1, bt202.2.1⟩ : S52)]) bt202.2.2.1 bt202.2.2.2.1 bt202.2.2.2.2) else (none)))) = some (r1, r2, r3) := by rw [if_pos rfl] at H; exact H
           clear H
           have H := H1
           clear H1
           by_cases c23 : (x11_3.length : Int) = 8
           ·rw [if_pos c23] at H
            have c23b0 : ((x11_3.length : Int) == 8) = true := beq_iff_eq.mpr c23
            have c23b1 : ((x11_3.length : Int) != 8) = false := bne_eq_false_iff_eq.mpr c23
            clear c23
            simp only [Option.some.injEq, Prod.mk.injEq] at H
            obtain ⟨rfl, rfl, rfl⟩ := H
            obtain ⟨Ao24, co24, eo24⟩ := Kd.R_slice HO_11.out
            subst eo24
            go_wp2
            go_ret3
            exact ⟨_, by first | rfl | (simp [errW_none, errW_some] <;> rfl) | (simp [*, errW_none, errW_some] <;> rfl), by first | exact Kd.R_nil _ _ _ _ _ | exact Kd.N_nil _ _ _ _ _ | exact Kd.V_nil _ _ _ _ _ | exact Kd.Q_nil _ _ _ _ _ | exact Kd.S_nil _ _ _ _ _, zb⟩
           ·rw [if_neg c23] at H
            have c23b0 : ((x11_3.length : Int) == 8) = false := beq_eq_false_iff_ne.mpr c23
            have c23b1 : ((x11_3.length : Int) != 8) = true := bne_iff_ne.mpr c23
            replace H := Option.bind_eq_some_iff.mp H
            obtain ⟨⟨t202, t203, t204, t205, t206⟩, A250, H⟩ := H
            replace H : (if x11_3.length < 5864062014805 then (frame_Get.l0 kj14 (wrap64 (t187)) (x11_3 ++ [(⟨t202, t203⟩ : S52)]) t204 t205 t206) else (none)) = some (r1, r2, r3) := H
            have A25 := Aside0.mk A250
            clear A250
            by_cases c26 : x11_3.length < 5864062014805
            ·rw [if_pos c26] at H
             have LMc26 := Aside0.mk c26
             clear c26
             obtain ⟨y207, hy207⟩ : ∃ y_ : List (S52), y_ = (x11_3 ++ [(⟨t202, t203⟩ : S52)]) := ⟨_, rfl⟩
             replace H : (frame_Get.l0 kj14 (wrap64 (t187)) y207 t204 t205 t206) = some (r1, r2, r3) := by first | (rw [hy207]; with_reducible exact H) | (have H2_ := (Option.bind_some _ _).symm.trans H; rw [hy207]; with_reducible exact H2_) | (have H2_ := (Option.bind_some _ _).symm.trans H; with_reducible exact H2_) | with_reducible exact H | (rw [hy207]; exact H) | exact H
             have Ny207 := Aside0.mk hy207
             clear hy207
             have H' := Aside0.mk H
             clear H
             obtain ⟨Ao27, co27, eo27⟩ := Kd.R_slice HO_11.out
             subst eo27
             go_wp2_with (first | ((with_reducible refine gate_callee (f := 55) rfl ?_); refine goesL_ (some 48) rfl rfl Try.func55 (by kernel_rfl) rfl #[.pointer (some ⟨g186, 0, none⟩)] rfl zm ?_; (with_reducible refine (frame_section.calls kj14 g186 x187000_14 x187001_14 x187002_14 t202 t203 t204 t205 t206 w _ ?side1 ?side2 A25.out).mono ?_); (case side1 => exact zj2); (case side2 => exact zb); rintro e w28 ⟨rfl, hi, hb, hk⟩; refine ⟨_, rfl, ?_⟩; have n0_ := Aside0.mk (Kd.R_mono (Kd.R_keep (IsS122.apart (show IsS122 w _ g186 x187000_14 x187001_14 x187002_14 from zj2) (by (with_reducible repeat (first | apply Kd.R_alloc | apply Kd.R_drewN | apply Kd.R_drew)); exact HO_11.out) (by decide)) hk (fun _ h => h.2)) (fun _ h => h.1)); have n1_ := Aside0.mk (hb); have n2_ := Aside0.mk (hi); clear HO_11; clear HB; clear HI186; have HO_11 := n0_; have HB := n1_; have HI186 := n2_; clear n0_ n1_ n2_; (try clear hb); (try clear hb2); (try clear hk); (try clear hi); (try simp only [errW_none, errW_some])) | ((with_reducible refine gate_builtin (b := .append) (xs := #[.tmp 46, .tmp 49]) rfl ?_); at_builtin; refine Kd.R_append k52 (w0 := w) w.heap.size rfl (.tmp 46) (.tmp 49) 36 52 (.agg #[(.int .i64 0), (.string ⟨#[]⟩)]) 24 rfl Try.underlying36 info52 rfl (by decide) (by omega) (.slice Ao27 x11_3.length co27) x11_3 (⟨t202, t203⟩ : S52) [.int .i64 t202, .string t203] (fun _ => True) (fun _ => False) rfl rfl ?aP (fun _ hk => hk.elim) ?aF ?aO ?aB ?aS ?aL ?_; (case aP => exact k52_mkM _ _ _ (⟨t202, t203⟩ : S52)); (case aB => exact zb); (case aF => exact (fun _ _ => trivial)); (case aO => exact (by (with_reducible repeat (first | apply Kd.R_alloc | apply Kd.R_drewN | apply Kd.R_drew)); exact HO_11.out)); (case aS => exact (below_size zb)); (case aL => have := LMc26.out; omega); intro v208 w29 ho hb hg hat; rw [← Ny207.out] at ho; have n0_ := Aside0.mk (IsS122.grown zj2 hg (IsS122.own_ne HI186.out HO_11.out (by decide))); have n1_ := Aside0.mk (hb); have n2_ := Aside0.mk (ho); clear HI186; clear HB; clear HO_11; have HI186 := n0_; have HB := n1_; have HO209 := n2_; clear n0_ n1_ n2_; clear ho hb hg hat))
             go_roundg kj14
             case measure => have := HJ3.out; have := HJ8.out; have := HK3.out; have := HJ14.out; omega
             case rel => exact ⟨(y207), (t204), (t205), (t206), H', ⟨by have := HJ3.out; have := HJ8.out; have := HK3.out; have := HJ14.out; omega⟩, ⟨by (with_reducible repeat (first | apply Kd.R_alloc | apply Kd.R_drewN | apply Kd.R_drew)); exact HO209.out⟩, ⟨zj2⟩, ⟨zb⟩⟩
            ·rw [if_neg c26] at H
             exact absurd H (by simp)
          ·replace c22 := Bool.eq_false_iff.mpr c22
           subst c22
           have H1 : ((cursor_Cursor_Err.f x187000_14 x187001_14 x187002_14).bind fun bt210 => (if bt210.1 = 0 then (some ((wrap64 (t187)), x11_3, 0)) else (some (0, ([] : List (S52)), bt210.1)))) = some (r1, r2, r3) := by rw [if_neg (show ¬ (false = true) by decide)] at H; exact H
           clear H
           have H := H1
           clear H1
           replace H := Option.bind_eq_some_iff.mp H
           obtain ⟨⟨t210, t211, t212, t213⟩, A300, H⟩ := H
           replace H : (if t210 = 0 then (some ((wrap64 (t187)), x11_3, 0)) else (some (0, ([] : List (S52)), t210))) = some (r1, r2, r3) := H
           have A30 := Aside0.mk A300
           clear A300
           by_cases c31 : t210 = 0
           ·rw [if_pos c31] at H
            have c31b0 : (t210 == 0) = true := beq_iff_eq.mpr c31
            have c31b1 : (t210 != 0) = false := bne_eq_false_iff_eq.mpr c31
            clear c31
            simp only [Option.some.injEq, Prod.mk.injEq] at H
            obtain ⟨rfl, rfl, rfl⟩ := H
            go_wp2_with (first | ((with_reducible refine gate_callee (f := 53) rfl ?_); refine goesL_ (some 52) rfl rfl Try.func53 (by kernel_rfl) rfl #[.pointer (some ⟨g186, 0, none⟩)] rfl zm ?_; (with_reducible refine (cursor_Cursor_Err.calls g186 x187000_14 x187001_14 x187002_14 t210 t211 t212 t213 w _ ?side1 ?side2 A30.out).mono ?_); (case side1 => exact zj2); (case side2 => exact zb); rintro e w32 ⟨rfl, hi, hb, hk⟩; refine ⟨_, rfl, ?_⟩; have n0_ := Aside0.mk (Kd.R_mono (Kd.R_keep (IsS122.apart (show IsS122 w _ g186 x187000_14 x187001_14 x187002_14 from zj2) (by (with_reducible repeat (first | apply Kd.R_alloc | apply Kd.R_drewN | apply Kd.R_drew)); exact HO_11.out) (by decide)) hk (fun _ h => h.2)) (fun _ h => h.1)); have n1_ := Aside0.mk (hb); have n2_ := Aside0.mk (hi); clear HO_11; clear HB; clear HI186; have HO_11 := n0_; have HB := n1_; have HI186 := n2_; clear n0_ n1_ n2_; (try clear hb); (try clear hb2); (try clear hk); (try clear hi); (try simp only [errW_none, errW_some])))
            go_ret3
            exact ⟨_, by first | rfl | (simp [errW_none, errW_some] <;> rfl) | (simp [*, errW_none, errW_some] <;> rfl), by (with_reducible repeat (first | apply Kd.R_alloc | apply Kd.R_drewN | apply Kd.R_drew)); exact HO_11.out, zb⟩
           ·rw [if_neg c31] at H
            have c31b0 : (t210 == 0) = false := beq_eq_false_iff_ne.mpr c31
            have c31b1 : (t210 != 0) = true := bne_iff_ne.mpr c31
            simp only [Option.some.injEq, Prod.mk.injEq] at H
            obtain ⟨rfl, rfl, rfl⟩ := H
            go_wp2_with (first | ((with_reducible refine gate_callee (f := 53) rfl ?_); refine goesL_ (some 52) rfl rfl Try.func53 (by kernel_rfl) rfl #[.pointer (some ⟨g186, 0, none⟩)] rfl zm ?_; (with_reducible refine (cursor_Cursor_Err.calls g186 x187000_14 x187001_14 x187002_14 t210 t211 t212 t213 w _ ?side1 ?side2 A30.out).mono ?_); (case side1 => exact zj2); (case side2 => exact zb); rintro e w33 ⟨rfl, hi, hb, hk⟩; refine ⟨_, rfl, ?_⟩; have n0_ := Aside0.mk (Kd.R_mono (Kd.R_keep (IsS122.apart (show IsS122 w _ g186 x187000_14 x187001_14 x187002_14 from zj2) (by (with_reducible repeat (first | apply Kd.R_alloc | apply Kd.R_drewN | apply Kd.R_drew)); exact HO_11.out) (by decide)) hk (fun _ h => h.2)) (fun _ h => h.1)); have n1_ := Aside0.mk (hb); have n2_ := Aside0.mk (hi); clear HO_11; clear HB; clear HI186; have HO_11 := n0_; have HB := n1_; have HI186 := n2_; clear n0_ n1_ n2_; (try clear hb); (try clear hb2); (try clear hk); (try clear hi); (try simp only [errW_none, errW_some])))
            go_ret3
            exact ⟨_, by first | rfl | (simp [errW_none, errW_some] <;> rfl) | (simp [*, errW_none, errW_some] <;> rfl), by first | exact Kd.R_nil _ _ _ _ _ | exact Kd.N_nil _ _ _ _ _ | exact Kd.V_nil _ _ _ _ _ | exact Kd.Q_nil _ _ _ _ _ | exact Kd.S_nil _ _ _ _ _, zb⟩
def patch_empty.f (a0_0 : Int) (l0_1 : List Int) (l0_2 : List ByteArray) (l0_3 : List Int) : Option (Bool) := if a0_0 = 0 then (if (l0_1.length : Int) = 0 then (if (l0_2.length : Int) = 0 then (some ((l0_3.length : Int) == 0)) else (some false)) else (some false)) else (some false)
end Go.Proofs.Ytdjpelcdijpihaa.PrintF
