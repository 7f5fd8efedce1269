/- A part of the proof of the claim: what it uses of the text PrintG5 (printed by xprint.py). -/
import Derived.Test.YtdjpelcdijpihaaVZ
import Derived.Test.YtdjpelcdijpihaaShort
import Derived.Test.YtdjpelcdijpihaaVHandRefText
import Derived.Test.YtdjpelcdijpihaaVPrintF0
import Derived.Test.YtdjpelcdijpihaaVPrintG1
import Derived.Test.YtdjpelcdijpihaaVPrintG2
namespace Go.Proofs.Ytdjpelcdijpihaa.PrintF
open Go.Proofs.Ytdjpelcdijpihaa.Print
open Go.RowKit Go.Proofs.YtdjpelcdijpihaaW.PrintWords Go.Proofs.YtdjpelcdijpihaaW.PrintLast Go.Proofs.YtdjpelcdijpihaaW.PrintMore
attribute [local go_sem] max2_int min2_int max_two min_two
set_option linter.unusedVariables false
set_option linter.unusedSimpArgs false
mutual
def dioramaref24_getNode.j1 : Nat → ByteArray → Int → Int → Int → List Int → Option (Int × List Int × List ByteArray × List Int × ByteArray × Int × Int)
 | 0, _, _, _, _, _ => none
 | k + 1, x1000, x1001, x1002, x259000, x259001 => (dioramaref02_Cursor_Uint.f k x1000 x1001 x1002 16777216).bind fun bt270 => (dioramaref24_getNode.l1 k bt270.1 0 bt270.2.1 bt270.2.2.1 bt270.2.2.2 x259000 x259001 ([] : List ByteArray))
def dioramaref24_getNode.j3 : Nat → ByteArray → Int → Int → Int → List Int → List ByteArray → Option (Int × List Int × List ByteArray × List Int × ByteArray × Int × Int)
 | 0, _, _, _, _, _, _ => none
 | k + 1, x1000, x1001, x1002, x259000, x259001, x259002 => (dioramaref02_Cursor_Uint.f k x1000 x1001 x1002 16777216).bind fun bt281 => (dioramaref24_getNode.l2 k bt281.1 0 bt281.2.1 bt281.2.2.1 bt281.2.2.2 x259000 x259001 x259002 ([] : List Int))
def dioramaref24_getNode.l2 : Nat → Int → Int → ByteArray → Int → Int → Int → List Int → List ByteArray → List Int → Option (Int × List Int × List ByteArray × List Int × ByteArray × Int × Int)
 | 0, _, _, _, _, _, _, _, _, _ => none
 | k + 1, x4, x7, x1000, x1001, x1002, x259000, x259001, x259002, x259003 => if x7 < x4 then (if x1002 = 0 then ((dioramaref02_Cursor_Uint.f k x1000 x1001 x1002 16777216).bind fun bt285 => (if x259003.length < 17592186044416 then (dioramaref24_getNode.l2 k x4 (wrap64 (x7 + 1)) bt285.2.1 bt285.2.2.1 bt285.2.2.2 x259000 x259001 x259002 (x259003 ++ [bt285.1])) else (none))) else (some (x259000, x259001, x259002, x259003, x1000, x1001, x1002))) else (some (x259000, x259001, x259002, x259003, x1000, x1001, x1002))
def dioramaref24_getNode.l1 : Nat → Int → Int → ByteArray → Int → Int → Int → List Int → List ByteArray → Option (Int × List Int × List ByteArray × List Int × ByteArray × Int × Int)
 | 0, _, _, _, _, _, _, _, _ => none
 | k + 1, x4, x6, x1000, x1001, x1002, x259000, x259001, x259002 => if x6 < x4 then (if x1002 = 0 then ((dioramaref02_Cursor_Text.f k x1000 x1001 x1002 16777216).bind fun bt274 => (if x259002.length < 8796093022208 then (dioramaref24_getNode.l1 k x4 (wrap64 (x6 + 1)) bt274.2.1 bt274.2.2.1 bt274.2.2.2 x259000 x259001 (x259002 ++ [bt274.1])) else (none))) else (dioramaref24_getNode.j3 k x1000 x1001 x1002 x259000 x259001 x259002)) else (dioramaref24_getNode.j3 k x1000 x1001 x1002 x259000 x259001 x259002)
def dioramaref24_getNode.l0 : Nat → Int → Int → ByteArray → Int → Int → Int → List Int → Option (Int × List Int × List ByteArray × List Int × ByteArray × Int × Int)
 | 0, _, _, _, _, _, _, _ => none
 | k + 1, x4, x5, x1000, x1001, x1002, x259000, x259001 => if x5 < x4 then (if x1002 = 0 then ((dioramaref02_Cursor_Int.f k x1000 x1001 x1002).bind fun bt263 => (if x259001.length < 17592186044416 then (dioramaref24_getNode.l0 k x4 (wrap64 (x5 + 1)) bt263.2.1 bt263.2.2.1 bt263.2.2.2 x259000 (x259001 ++ [bt263.1])) else (none))) else (dioramaref24_getNode.j1 k x1000 x1001 x1002 x259000 x259001)) else (dioramaref24_getNode.j1 k x1000 x1001 x1002 x259000 x259001)
end
def dioramaref24_getNode.f (k : Nat) (s0_0 : ByteArray) (s0_1 : Int) (s0_2 : Int) : Option (Int × List Int × List ByteArray × List Int × ByteArray × Int × Int) := (dioramaref02_Cursor_Uint.f k s0_0 s0_1 s0_2 16777216).bind fun bt254 => ((dioramaref02_Cursor_Uint.f k bt254.2.1 bt254.2.2.1 bt254.2.2.2 16777216).bind fun bt259 => (dioramaref24_getNode.l0 k bt259.1 0 bt259.2.1 bt259.2.2.1 bt259.2.2.2 bt254.1 ([] : List Int)))
def dioramaref24_getNode.T6 : Bool × List (List Nat × List Nat) := (true, [([], []), ([0], [0]), ([], []), ([2], [2]), ([3], [3]), ([1, 4, 3], [1, 4]), ([0, 1, 2, 3, 4, 5], []), ([6, 5, 5, 0, 1, 2, 3, 4, 5], [5, 6])])
def dioramaref24_getNode.B6 : List Nat := [0, 1, 0, 4, 12, 31, 63, 127]
theorem dioramaref24_getNode.tab6 : rtab .any (opsOf Try.f94 6) = dioramaref24_getNode.T6 := by kernel_rfl
theorem dioramaref24_getNode.bits6 : waitsOk dioramaref24_getNode.T6.2 dioramaref24_getNode.B6 = true := by kernel_rfl
def dioramaref24_getNode.T11 : Bool × List (List Nat × List Nat) := (true, [([], []), ([0], [0]), ([], []), ([2], [2]), ([3], [3]), ([1, 4, 3], [1, 4]), ([0, 1, 2, 3, 4, 5], []), ([6, 5, 5, 0, 1, 2, 3, 4, 5], [5, 6])])
def dioramaref24_getNode.B11 : List Nat := [0, 1, 0, 4, 12, 31, 63, 127]
theorem dioramaref24_getNode.tab11 : rtab .any (opsOf Try.f94 11) = dioramaref24_getNode.T11 := by kernel_rfl
theorem dioramaref24_getNode.bits11 : waitsOk dioramaref24_getNode.T11.2 dioramaref24_getNode.B11 = true := by kernel_rfl
def dioramaref24_getNode.T16 : Bool × List (List Nat × List Nat) := (true, [([], []), ([0], [0]), ([], []), ([2], [2]), ([3], [3]), ([1, 4, 3], [1, 4]), ([0, 1, 2, 3, 4, 5], []), ([6, 5, 5, 0, 1, 2, 3, 4, 5], [5, 6])])
def dioramaref24_getNode.B16 : List Nat := [0, 1, 0, 4, 12, 31, 63, 127]
theorem dioramaref24_getNode.tab16 : rtab .any (opsOf Try.f94 16) = dioramaref24_getNode.T16 := by kernel_rfl
theorem dioramaref24_getNode.bits16 : waitsOk dioramaref24_getNode.T16.2 dioramaref24_getNode.B16 = true := by kernel_rfl
set_option maxHeartbeats 8000000 in
set_option maxRecDepth 100000 in
theorem dioramaref24_getNode.calls (k : Nat) (g : Nat) (s0_0 : ByteArray) (s0_1 : Int) (s0_2 : Int) (r1 : Int) (r2 : List Int) (r3 : List ByteArray) (r4 : List Int) (r5 : ByteArray) (r6 : Int) (r7 : Int) (w0 w : World) (hI : IsS116 w0 w g s0_0 s0_1 s0_2) (hB : Below w0.heap.size w0 w) (h : dioramaref24_getNode.f k s0_0 s0_1 s0_2 = some (r1, r2, r3, r4, r5, r6, r7)) :
  Calls Try.prog 94 #[.pointer (some ⟨g, 0, none⟩)] w fun e w' => ∃ v1_ v2_ v3_ : Value, e = .returned (.agg #[.int .i64 r1, v1_, v2_, v3_]) ∧ Kd.R (Kd.int .i64) 2 w' w.heap.size (fun _ => True) v1_ r2 ∧ Kd.R Kd.string 9 w' w.heap.size (fun _ => True) v2_ r3 ∧ Kd.R (Kd.int .i64) 3 w' w.heap.size (fun _ => True) v3_ r4 ∧ IsS116 w0 w' g r5 r6 r7 ∧ Below w0.heap.size w0 w' ∧ KeepBut w w' g none := by
 have hu105 := Try.underlying105
 have HI0 := Aside0.mk hI
 have HK := Aside0.mk (KeepBut.refl w g none)
 have HL := Aside0.mk hB.size
 clear hI
 have HW0 := Aside0.mk hB.size
 have HB := Aside0.mk hB
 clear hB
 have H : ((dioramaref02_Cursor_Uint.f k s0_0 s0_1 s0_2 16777216).bind fun bt254 => ((dioramaref02_Cursor_Uint.f k bt254.2.1 bt254.2.2.1 bt254.2.2.2 16777216).bind fun bt259 => (dioramaref24_getNode.l0 k bt259.1 0 bt259.2.1 bt259.2.2.1 bt259.2.2.2 bt254.1 ([] : List Int)))) = some (r1, r2, r3, r4, r5, r6, r7) := h
 clear h
 replace H := Option.bind_eq_some_iff.mp H
 obtain ⟨⟨t254, t255, t256, t257⟩, A20, H⟩ := H
 replace H : ((dioramaref02_Cursor_Uint.f k t255 t256 t257 16777216).bind fun bt259 => (dioramaref24_getNode.l0 k bt259.1 0 bt259.2.1 bt259.2.2.1 bt259.2.2.2 t254 ([] : List Int))) = some (r1, r2, r3, r4, r5, r6, r7) := H
 have A2 := Aside0.mk A20
 clear A20
 replace H := Option.bind_eq_some_iff.mp H
 obtain ⟨⟨t259, t260, t261, t262⟩, A30, H⟩ := H
 replace H : (dioramaref24_getNode.l0 k t259 0 t260 t261 t262 t254 ([] : List Int)) = some (r1, r2, r3, r4, r5, r6, r7) := H
 have A3 := Aside0.mk A30
 clear A30
 have HC4 := Aside0.mk H
 clear H
 go_enter Try.func94, Try.ntmps94
 go_upto_block 0 with (first | ((with_reducible refine gate_dst (N := 2) rfl ?_); refine box_event ?hg (N := 2) ?hd (cs := #[.int .i64 0, .slice none 0 0, .slice none 0 0, .slice none 0 0]) (t := 105) ?hr ?_; (case hd => rfl); (case hg => rfl); (case hr => first | (go_simp; done) | (go_simp; rfl)); intro gb253 hg w5 hbox hb; have n0_ := Aside0.mk (IsS116.below zi6 hb); have n1_ := Aside0.mk (KeepBut.trans zk (KeepBut.of_below hb g none) (.inl rfl)); have n2_ := Aside0.mk (below_step zb hb); have n3_ := Aside0.mk (hbox); have n4_ := Aside0.mk ((by rw [hg]; exact (keep_size (w := w) (g := g) (row := none) zk) : w.heap.size ≤ gb253)); have n5_ := Aside0.mk ((Nat.le_trans HW0.out (by rw [hg]; exact (keep_size (w := w) (g := g) (row := none) zk) : w.heap.size ≤ gb253) : w0.heap.size ≤ gb253)); have n6_ := Aside0.mk ((by rw [hg]; exact Nat.ne_of_lt (IsS116.lt (show IsS116 w0 _ g s0_0 s0_1 s0_2 from zi6)) : g ≠ gb253)); have n7_ := Aside0.mk ((by rw [hg]; exact Nat.ne_of_gt (IsS116.lt (show IsS116 w0 _ g s0_0 s0_1 s0_2 from zi6)) : gb253 ≠ g)); clear HI0; clear HK; clear HB; have HI0 := n0_; have HK := n1_; have HB := n2_; have BK253 := n3_; have GW253 := n4_; have GE253 := n5_; have NB0_253 := n6_; have NB253_0 := n7_; clear n0_ n1_ n2_ n3_ n4_ n5_ n6_ n7_; clear hb hbox hg) | ((with_reducible refine gate_callee (f := 67) rfl ?_); refine goesL_ (some 9) rfl rfl Try.func67 (by kernel_rfl) rfl #[.pointer (some ⟨g, 0, none⟩), .int .u64 16777216] rfl zm ?_; (with_reducible refine (dioramaref02_Cursor_Uint.calls k g s0_0 s0_1 s0_2 16777216 t254 t255 t256 t257 w0 _ ?side1 ?side2 A2.out).mono ?_); (case side1 => exact zi6); (case side2 => exact zb); rintro e w6 ⟨rfl, hi, hb, hk⟩; refine ⟨_, rfl, ?_⟩; have n0_ := Aside0.mk (KeepBut.blk hk (g' := gb253) (o := .cells #[.int .i64 0, .slice none 0 0, .slice none 0 0, .slice none 0 0] 105 (0, 0)) (by (with_reducible repeat (first | refine blk_drewN ?_ _ | refine blk_drew ?_ | refine blk_alloc ?_ _)); exact BK253.out) NB253_0.out (by simp)); have n1_ := Aside0.mk (KeepBut.trans zk hk (.inl rfl)); have n2_ := Aside0.mk (hb); have n3_ := Aside0.mk (hi); clear BK253; clear HK; clear HB; clear HI0; have BK253 := n0_; have HK := n1_; have HB := n2_; have HI0 := n3_; clear n0_ n1_ n2_ n3_; (try clear hb); (try clear hb2); (try clear hk); (try clear hi)) | ((with_reducible refine gate_dst (N := 3) rfl ?_); refine box_event ?hg (N := 3) ?hd (cs := #[.int .i64 0, .slice none 0 0, .slice none 0 0, .slice none 0 0]) (t := 105) ?hr ?_; (case hd => rfl); (case hg => rfl); (case hr => first | (go_simp; done) | (go_simp; rfl)); intro gb258 hg w7 hbox hb; have n0_ := Aside0.mk (IsS116.below zi6 hb); have n1_ := Aside0.mk (blk_below (g := gb253) (o := .cells #[.int .i64 0, .slice none 0 0, .slice none 0 0, .slice none 0 0] 105 (0, 0)) (by (with_reducible repeat (first | refine blk_drewN ?_ _ | refine blk_drew ?_ | refine blk_alloc ?_ _)); exact BK253.out) hb); have n2_ := Aside0.mk (KeepBut.trans zk (KeepBut.of_below hb g none) (.inl rfl)); have n3_ := Aside0.mk (below_step zb hb); have n4_ := Aside0.mk (hbox); have n5_ := Aside0.mk ((by rw [hg]; exact (keep_size (w := w) (g := g) (row := none) zk) : w.heap.size ≤ gb258)); have n6_ := Aside0.mk ((Nat.le_trans HW0.out (by rw [hg]; exact (keep_size (w := w) (g := g) (row := none) zk) : w.heap.size ≤ gb258) : w0.heap.size ≤ gb258)); have n7_ := Aside0.mk ((by rw [hg]; exact Nat.ne_of_lt (blk_lt (g := gb253) (o := .cells #[.int .i64 0, .slice none 0 0, .slice none 0 0, .slice none 0 0] 105 (0, 0)) (by (with_reducible repeat (first | refine blk_drewN ?_ _ | refine blk_drew ?_ | refine blk_alloc ?_ _)); exact BK253.out)) : gb253 ≠ gb258)); have n8_ := Aside0.mk ((by rw [hg]; exact Nat.ne_of_gt (blk_lt (g := gb253) (o := .cells #[.int .i64 0, .slice none 0 0, .slice none 0 0, .slice none 0 0] 105 (0, 0)) (by (with_reducible repeat (first | refine blk_drewN ?_ _ | refine blk_drew ?_ | refine blk_alloc ?_ _)); exact BK253.out)) : gb258 ≠ gb253)); have n9_ := Aside0.mk ((by rw [hg]; exact Nat.ne_of_lt (IsS116.lt (show IsS116 w0 _ g t255 t256 t257 from zi6)) : g ≠ gb258)); have n10_ := Aside0.mk ((by rw [hg]; exact Nat.ne_of_gt (IsS116.lt (show IsS116 w0 _ g t255 t256 t257 from zi6)) : gb258 ≠ g)); clear HI0; clear BK253; clear HK; clear HB; have HI0 := n0_; have BK253 := n1_; have HK := n2_; have HB := n3_; have BK258 := n4_; have GW258 := n5_; have GE258 := n6_; have NB253_258 := n7_; have NB258_253 := n8_; have NB0_258 := n9_; have NB258_0 := n10_; clear n0_ n1_ n2_ n3_ n4_ n5_ n6_ n7_ n8_ n9_ n10_; clear hb hbox hg; have hnb8 := NB258_253.out; have hnc8 := NB253_258.out; have hnb9 := NB258_0.out; have hnc9 := NB0_258.out; have hcz10_0 : w7.cell? ⟨gb258, 0, none⟩ = some (.int .i64 0) := (blk_cell BK258.out 0).trans rfl; have hcz10_1 : w7.cell? ⟨gb258, 1, none⟩ = some (.slice none 0 0) := (blk_cell BK258.out 1).trans rfl; have hcz10_2 : w7.cell? ⟨gb258, 2, none⟩ = some (.slice none 0 0) := (blk_cell BK258.out 2).trans rfl; have hcz10_3 : w7.cell? ⟨gb258, 3, none⟩ = some (.slice none 0 0) := (blk_cell BK258.out 3).trans rfl; have hfz10_0 := blk_frozen BK258.out 0; have hfz10_1 := blk_frozen BK258.out 1; have hfz10_2 := blk_frozen BK258.out 2; have hfz10_3 := blk_frozen BK258.out 3) | ((with_reducible refine gate_callee (f := 67) rfl ?_); refine goesL_ (some 12) rfl rfl Try.func67 (by kernel_rfl) rfl #[.pointer (some ⟨g, 0, none⟩), .int .u64 16777216] rfl zm ?_; (with_reducible refine (dioramaref02_Cursor_Uint.calls k g t255 t256 t257 16777216 t259 t260 t261 t262 w0 _ ?side1 ?side2 A3.out).mono ?_); (case side1 => exact zi6); (case side2 => exact zb); rintro e w11 ⟨rfl, hi, hb, hk⟩; refine ⟨_, rfl, ?_⟩; have n0_ := Aside0.mk (KeepBut.blk hk (g' := gb253) (o := .cells #[.int .i64 0, .slice none 0 0, .slice none 0 0, .slice none 0 0] 105 (0, 0)) (by (with_reducible repeat (first | refine blk_drewN ?_ _ | refine blk_drew ?_ | refine blk_alloc ?_ _)); refine blk_far ?_ NB253_258.out _; (with_reducible repeat (first | refine blk_drewN ?_ _ | refine blk_drew ?_ | refine blk_alloc ?_ _)); refine blk_far ?_ NB253_258.out _; (with_reducible repeat (first | refine blk_drewN ?_ _ | refine blk_drew ?_ | refine blk_alloc ?_ _)); refine blk_far ?_ NB253_258.out _; (with_reducible repeat (first | refine blk_drewN ?_ _ | refine blk_drew ?_ | refine blk_alloc ?_ _)); refine blk_far ?_ NB253_258.out _; (with_reducible repeat (first | refine blk_drewN ?_ _ | refine blk_drew ?_ | refine blk_alloc ?_ _)); exact BK253.out) NB253_0.out (by simp)); have n1_ := Aside0.mk (KeepBut.blk hk (g' := gb258) (o := .cells #[.int .i64 t254, .slice none 0 0, .slice none 0 0, .slice none 0 0] 105 (0, 0)) (by (with_reducible repeat (first | refine blk_drewN ?_ _ | refine blk_drew ?_ | refine blk_alloc ?_ _)); refine blk_put (cs := #[.int .i64 t254, .slice none 0 0, .slice none 0 0, .slice none 0 0]) ?_ 3 _ rfl; (with_reducible repeat (first | refine blk_drewN ?_ _ | refine blk_drew ?_ | refine blk_alloc ?_ _)); refine blk_put (cs := #[.int .i64 t254, .slice none 0 0, .slice none 0 0, .slice none 0 0]) ?_ 2 _ rfl; (with_reducible repeat (first | refine blk_drewN ?_ _ | refine blk_drew ?_ | refine blk_alloc ?_ _)); refine blk_put (cs := #[.int .i64 t254, .slice none 0 0, .slice none 0 0, .slice none 0 0]) ?_ 1 _ rfl; (with_reducible repeat (first | refine blk_drewN ?_ _ | refine blk_drew ?_ | refine blk_alloc ?_ _)); refine blk_put (cs := #[.int .i64 0, .slice none 0 0, .slice none 0 0, .slice none 0 0]) ?_ 0 _ rfl; (with_reducible repeat (first | refine blk_drewN ?_ _ | refine blk_drew ?_ | refine blk_alloc ?_ _)); exact BK258.out) NB258_0.out (by simp)); have n2_ := Aside0.mk (KeepBut.trans zk hk (.inl rfl)); have n3_ := Aside0.mk (hb); have n4_ := Aside0.mk (hi); clear BK253; clear BK258; clear HK; clear HB; clear HI0; have BK253 := n0_; have BK258 := n1_; have HK := n2_; have HB := n3_; have HI0 := n4_; clear n0_ n1_ n2_ n3_ n4_; (try clear hb); (try clear hb2); (try clear hk); (try clear hi)))
 (try simp only [Act.put, zq1, zq2, zq3])
 go_cut [] (fun wc => ∃ (kq : Nat) (x1000_3 : ByteArray) (x1001_3 : Int) (x1002_3 : Int) (x259001_3 : List Int) (u259001 : Value), Aside0 (dioramaref24_getNode.j1 kq x1000_3 x1001_3 x1002_3 t254 x259001_3 = some (r1, r2, r3, r4, r5, r6, r7)) ∧ Aside0 (kq ≤ k) ∧ Aside0 (Kd.R (Kd.int .i64) 2 wc w.heap.size (fun _ => True) u259001 x259001_3) ∧ Aside0 (wc.heap[gb253]? = some (.cells #[.int .i64 0, (.slice none 0 0), (.slice none 0 0), (.slice none 0 0)] 105 (0, 0))) ∧ Aside0 (wc.heap[gb258]? = some (.cells #[.int .i64 t254, u259001, (.slice none 0 0), (.slice none 0 0)] 105 (0, 0))) ∧ Aside0 (IsS116 w0 wc g x1000_3 x1001_3 x1002_3) ∧ Aside0 (KeepBut w wc g none) ∧ Aside0 (Below w0.heap.size w0 wc))
 case first =>
  have H := HC4.out
  clear HC4
  have H' := Aside0.mk H
  clear H
  go_wp2
  go_loopg [5] k (fun kq v5 w' => ∃ (x5_1 : Int) (x1000_1 : ByteArray) (x1001_1 : Int) (x1002_1 : Int) (x259001_1 : List Int) (u259001 : Value), v5 = .int .i64 x5_1 ∧ Aside0 (dioramaref24_getNode.l0 kq t259 x5_1 x1000_1 x1001_1 x1002_1 t254 x259001_1 = some (r1, r2, r3, r4, r5, r6, r7)) ∧ Aside0 (kq ≤ k) ∧ Aside0 (Kd.R (Kd.int .i64) 2 w' w.heap.size (fun _ => True) u259001 x259001_1) ∧ Aside0 (w'.heap[gb253]? = some (.cells #[.int .i64 0, (.slice none 0 0), (.slice none 0 0), (.slice none 0 0)] 105 (0, 0))) ∧ Aside0 (w'.heap[gb258]? = some (.cells #[.int .i64 t254, u259001, (.slice none 0 0), (.slice none 0 0)] 105 (0, 0))) ∧ Aside0 (IsS116 w0 w' g x1000_1 x1001_1 x1002_1) ∧ Aside0 (KeepBut w w' g none) ∧ Aside0 (Below w0.heap.size w0 w'))
  case atStart => exact ⟨(0), (t260), (t261), (t262), (([] : List Int)), (.slice none 0 0), zr, H', ⟨Nat.le_refl _⟩, ⟨by first | exact Kd.R_nil _ _ _ _ _ | exact Kd.N_nil _ _ _ _ _ | exact Kd.V_nil _ _ _ _ _ | exact Kd.Q_nil _ _ _ _ _ | exact Kd.S_nil _ _ _ _ _⟩, ⟨by (with_reducible repeat (first | refine blk_drewN ?_ _ | refine blk_drew ?_ | refine blk_alloc ?_ _)); exact BK253.out⟩, ⟨by (with_reducible repeat (first | refine blk_drewN ?_ _ | refine blk_drew ?_ | refine blk_alloc ?_ _)); exact BK258.out⟩, ⟨zi6⟩, ⟨zk⟩, ⟨zb⟩⟩
  case round =>
   clear H'
   try clear p2
   try clear c6
   try clear c8
   try clear c9
   try clear hcz10_0
   try clear hcz10_1
   try clear hcz10_2
   try clear hcz10_3
   try clear hfz10_0
   try clear hfz10_1
   try clear hfz10_2
   try clear hfz10_3
   obtain ⟨x5_1, x1000_1, x1001_1, x1002_1, x259001_1, u259001, rfl, HA, HK1, HO_259001, BK253, BK258, HI0, HK, HB⟩ := hrel
   cases gk with
   | zero => exact absurd HA.out (by simp [dioramaref24_getNode.l0])
   | succ k1 =>
    have H := HA.out
    clear HA
    simp only [dioramaref24_getNode.l0] at H
    by_cases c12 : x5_1 < t259
    ·rw [if_pos c12] at H
     have c12b0 : decide (x5_1 < t259) = true := decide_eq_true c12
     clear c12
     (first | rw [c12b0] | (simp only [i64_w]; rw [c12b0]) | skip)
     by_cases c13 : x1002_1 = 0
     ·rw [if_pos c13] at H
      have c13b0 : (x1002_1 == 0) = true := beq_iff_eq.mpr c13
      have c13b1 : (x1002_1 != 0) = false := bne_eq_false_iff_eq.mpr c13
      clear c13
      replace H := Option.bind_eq_some_iff.mp H
      obtain ⟨⟨t263, t264, t265, t266⟩, A140, H⟩ := H
      replace H : (if x259001_1.length < 17592186044416 then (dioramaref24_getNode.l0 k1 t259 (wrap64 (x5_1 + 1)) t264 t265 t266 t254 (x259001_1 ++ [t263])) else (none)) = some (r1, r2, r3, r4, r5, r6, r7) := H
      have A14 := Aside0.mk A140
      clear A140
      by_cases c15 : x259001_1.length < 17592186044416
      ·rw [if_pos c15] at H
       have LMc15 := Aside0.mk c15
       clear c15
       obtain ⟨y267, hy267⟩ : ∃ y_ : List Int, y_ = (x259001_1 ++ [t263]) := ⟨_, rfl⟩
       replace H : (dioramaref24_getNode.l0 k1 t259 (wrap64 (x5_1 + 1)) t264 t265 t266 t254 y267) = some (r1, r2, r3, r4, r5, r6, r7) := by first | (rw [hy267]; with_reducible exact H) | (have H2_ := (Option.bind_some _ _).symm.trans H; rw [hy267]; with_reducible exact H2_) | (have H2_ := (Option.bind_some _ _).symm.trans H; with_reducible exact H2_) | with_reducible exact H | (rw [hy267]; exact H) | exact H
       have Ny267 := Aside0.mk hy267
       clear hy267
       have H' := Aside0.mk H
       clear H
       obtain ⟨HGz16, hgz16⟩ := HI0.out
       have hcz16_0 := cellS116_0 HGz16
       have hcz16_1 := cellS116_1 HGz16
       have hcz16_2 := cellS116_2 HGz16
       have hfz16_0 := blk_frozen HGz16 0
       have hfz16_1 := blk_frozen HGz16 1
       have hfz16_2 := blk_frozen HGz16 2
       clear HGz16 hgz16
       try go_wp2
       have n0_ := Aside0.mk (Kd.R_drew HO_259001.out)
       have n1_ := Aside0.mk (blk_drew BK253.out)
       have n2_ := Aside0.mk (blk_drew BK258.out)
       have n3_ := Aside0.mk (IsS116.drew HI0.out)
       have n4_ := Aside0.mk (keep_drew HK.out)
       have n5_ := Aside0.mk (below_drew1 HB.out)
       clear HO_259001
       clear BK253
       clear BK258
       clear HI0
       clear HK
       clear HB
       have HO_259001 := n0_
       have BK253 := n1_
       have BK258 := n2_
       have HI0 := n3_
       have HK := n4_
       have HB := n5_
       clear n0_ n1_ n2_ n3_ n4_ n5_
       refine start_ (n := 8) (S := fun w' => w'.cell? ⟨gb258, 0, none⟩ = some (.int .i64 t254) ∧ w'.cell? ⟨gb258, 1, none⟩ = some (u259001) ∧ w'.cell? ⟨gb258, 2, none⟩ = some (.slice none 0 0) ∧ w'.cell? ⟨gb258, 3, none⟩ = some (.slice none 0 0)) (ds := [7]) #[false, false, false, false, false, false, false, false] (by kernel_rfl) rfl rfl ⟨(blk_cell BK258.out 0).trans rfl, (blk_cell BK258.out 1).trans rfl, (blk_cell BK258.out 2).trans rfl, (blk_cell BK258.out 3).trans rfl⟩ (fun hHeld => ?_); refine with_tabW dioramaref24_getNode.tab6 dioramaref24_getNode.bits6 (fun HT_ HW_ => ?_)
       generalize wr.drew = w17 at HO_259001 BK253 BK258 HI0 HK HB hHeld ⊢
       refine pure_ (i := 0) (N := some 25) (v := ?_) (a' := ?_) #[true, false, false, false, false, false, false, false] rfl rfl (any_of HT_.out (by kernel_rfl)) (fun _ _ _ h => h) (Or.inl ⟨by rfl, ?_⟩) ?_ ?_
       rotate_left
       ·intro w'
        go_simp
        with_reducible rfl
       rotate_left
       ·simp only [Act.put, zq1, zq2, zq3, i64_w]
        rfl
       refine pure_ (i := 2) (N := some 27) (v := ?_) (a' := ?_) #[true, false, true, false, false, false, false, false] rfl rfl (any_of HT_.out (by kernel_rfl)) (fun _ _ _ h => h) (Or.inl ⟨by rfl, ?_⟩) ?_ ?_
       rotate_left
       ·intro w'
        go_simp
        with_reducible rfl
       rotate_left
       ·simp only [Act.put, zq1, zq2, zq3, i64_w]
        rfl
       refine take_ (i := 1) (N := some 26) (v := ?_) (a' := ?_) #[true, true, true, false, false, false, false, false] rfl rfl (take_ofW HT_.out HW_.out (by kernel_rfl)) (fun _ _ _ h => h) (Or.inl ⟨by rfl, ?_⟩) hHeld ?_ ?_
       rotate_left
       ·rintro w' ⟨s0, s1, s2, s3⟩
        go_simp
        with_reducible rfl
       rotate_left
       ·simp only [Act.put, zq1, zq2, zq3, i64_w]
        rfl
       refine one_ (i := 3) (N := some 28) #[true, true, true, true, false, false, false, false] rfl rfl (one_of HT_.out (by kernel_rfl)) (by decide) (fun K hK => ?_)
       refine goes_ Try.func108 (by kernel_rfl) rfl #[.pointer (some ⟨g, 0, none⟩)] (by rfl) rfl rfl zm ?_
       with_reducible refine (dioramaref02_Cursor_Int.calls k1 g x1000_1 x1001_1 x1002_1 t263 t264 t265 t266 w0 _ ?side1 ?side2 A14.out).mono ?_
       (case side1 => exact zi6)
       (case side2 => exact zb)
       rintro e w18 ⟨rfl, hi, hb, hk⟩
       refine ⟨_, rfl, ?_⟩
       have n0_ := Aside0.mk (Kd.R_mono (Kd.R_keep (IsS116.apart (show IsS116 w0 _ g x1000_1 x1001_1 x1002_1 from zi6) (by (with_reducible repeat (first | apply Kd.R_alloc | apply Kd.R_drewN | apply Kd.R_drew)); exact HO_259001.out) (by decide)) hk (fun _ h => h.2)) (fun _ h => h.1))
       have n1_ := Aside0.mk (KeepBut.blk hk (g' := gb253) (o := .cells #[.int .i64 0, .slice none 0 0, .slice none 0 0, .slice none 0 0] 105 (0, 0)) (by (with_reducible repeat (first | refine blk_drewN ?_ _ | refine blk_drew ?_ | refine blk_alloc ?_ _)); exact BK253.out) NB253_0.out (by simp))
       have n2_ := Aside0.mk (KeepBut.blk hk (g' := gb258) (o := .cells #[.int .i64 t254, u259001, .slice none 0 0, .slice none 0 0] 105 (0, 0)) (by (with_reducible repeat (first | refine blk_drewN ?_ _ | refine blk_drew ?_ | refine blk_alloc ?_ _)); exact BK258.out) NB258_0.out (by simp))
       have n3_ := Aside0.mk (KeepBut.trans zk hk (.inl rfl))
       have n4_ := Aside0.mk (hb)
       have n5_ := Aside0.mk (hi)
       clear HO_259001
       clear BK253
       clear BK258
       clear HK
       clear HB
       clear HI0
       have HO_259001 := n0_
       have BK253 := n1_
       have BK258 := n2_
       have HK := n3_
       have HB := n4_
       have HI0 := n5_
       clear n0_ n1_ n2_ n3_ n4_ n5_
       (try clear hb)
       (try clear hb2)
       (try clear hk)
       (try clear hi)
       refine hK.out _ _ ⟨(blk_cell BK258.out 0).trans rfl, (blk_cell BK258.out 1).trans rfl, (blk_cell BK258.out 2).trans rfl, (blk_cell BK258.out 3).trans rfl⟩ (fun hHeld => ?_)
       clear hK K
       refine norm_ (a' := ?_) ?_ ?_
       rotate_left
       ·show Act.put _ (some 28) _ = _
        simp only [Act.put, zq1, zq2, zq3, i64_w]
        rfl
       refine one_ (i := 4) (N := some 29) #[true, true, true, true, true, false, false, false] rfl rfl (one_of HT_.out (by kernel_rfl)) (by decide) (fun K hK => ?_)
       refine value_ (w1 := ?_) (v := ?_) (by rfl) rfl ?_ ?_
       rotate_left 2
       ·go_simp
        constructor
        ·rfl
        ·rfl
       refine hK.out _ _ ⟨(blk_cell (blk_alloc BK258.out _) 0).trans rfl, (blk_cell (blk_alloc BK258.out _) 1).trans rfl, (blk_cell (blk_alloc BK258.out _) 2).trans rfl, (blk_cell (blk_alloc BK258.out _) 3).trans rfl⟩ (fun hHeld => ?_)
       clear hK K
       refine norm_ (a' := ?_) ?_ ?_
       rotate_left
       ·show Act.put _ (some 29) _ = _
        simp only [Act.put, zq1, zq2, zq3, i64_w]
        rfl
       refine one_ (i := 5) (N := some 30) #[true, true, true, true, true, true, false, false] rfl rfl (one_of HT_.out (by kernel_rfl)) (by decide) (fun K hK => ?_)
       refine Kd.R_append_step (Kd.int .i64) w.heap.size (by rfl) (.tmp 26) (.tmp 29) 101 2 (.int .i64 0) 8 rfl Try.underlying101 info2 rfl (by decide) (by omega) u259001 x259001_1 t263 [.int .i64 t263] (fun _ => True) (fun _ => False) rfl rfl ?aP (fun _ hk => hk.elim) ?aF ?aO (Below.refl _ _) ?aS ?aL ?_
       (case aP => exact rfl)
       (case aF => exact (fun _ _ => trivial))
       (case aO => exact (by (with_reducible repeat (first | apply Kd.R_alloc | apply Kd.R_drewN | apply Kd.R_drew)); exact HO_259001.out))
       (case aS => exact (keep_size (w := w) (g := g) (row := none) zk))
       (case aL => have := LMc15.out; omega)
       intro v268 w19 ho hb hg hat
       rw [← Ny267.out] at ho
       have n0_ := Aside0.mk (blk_grown (g := gb253) (o := .cells #[.int .i64 0, .slice none 0 0, .slice none 0 0, .slice none 0 0] 105 (0, 0)) (by (with_reducible repeat (first | refine blk_drewN ?_ _ | refine blk_drew ?_ | refine blk_alloc ?_ _)); exact BK253.out) hg (Kd.R_ne HO_259001.out BK253.out (by decide)))
       have n1_ := Aside0.mk (blk_grown (g := gb258) (o := .cells #[.int .i64 t254, u259001, .slice none 0 0, .slice none 0 0] 105 (0, 0)) (by (with_reducible repeat (first | refine blk_drewN ?_ _ | refine blk_drew ?_ | refine blk_alloc ?_ _)); exact BK258.out) hg (Kd.R_ne HO_259001.out BK258.out (by decide)))
       have n2_ := Aside0.mk (IsS116.grown zi6 hg (IsS116.own_ne HI0.out HO_259001.out (by decide)))
       have n3_ := Aside0.mk (below_weaken zb HL.out hb)
       have n4_ := Aside0.mk (KeepBut.trans zk (KeepBut.of_grown hg g) (Kd.R_base2 HO_259001.out))
       have n5_ := Aside0.mk (ho)
       clear BK253
       clear BK258
       clear HI0
       clear HB
       clear HK
       clear HO_259001
       have BK253 := n0_
       have BK258 := n1_
       have HI0 := n2_
       have HB := n3_
       have HK := n4_
       have HO269 := n5_
       clear n0_ n1_ n2_ n3_ n4_ n5_
       clear ho hb hg hat
       obtain ⟨Ao20, co20, eo20⟩ := Kd.R_slice HO269.out
       (first | subst eo20 | (injection eo20 with f1_ f2_ f3_; have f4_ := f1_.symm; have f5_ := f3_.symm; clear f1_ f2_ f3_; subst f4_; subst f5_))
       refine hK.out _ _ ⟨(blk_cell BK258.out 0).trans rfl, (blk_cell BK258.out 1).trans rfl, (blk_cell BK258.out 2).trans rfl, (blk_cell BK258.out 3).trans rfl⟩ (fun hHeld => ?_)
       clear hK K
       refine norm_ (a' := ?_) ?_ ?_
       rotate_left
       ·show Act.put _ (some 30) _ = _
        simp only [Act.put, zq1, zq2, zq3, i64_w]
        rfl
       refine pure_ (i := 6) (N := some 31) (v := ?_) (a' := ?_) #[true, true, true, true, true, true, true, false] rfl rfl (any_of HT_.out (by kernel_rfl)) (fun _ _ _ h => h) (Or.inl ⟨by rfl, ?_⟩) ?_ ?_
       rotate_left
       ·intro w'
        go_simp
        with_reducible rfl
       rotate_left
       ·simp only [Act.put, zq1, zq2, zq3, i64_w]
        rfl
       refine last_ (i := 7) (N := none) #[true, true, true, true, true, true, true, true] rfl rfl (one_of HT_.out (by kernel_rfl)) (by decide) (fun K hK => ?_)
       have hs21 : w19.cell? ⟨gb258, 1, none⟩ = some (u259001) := (blk_cell BK258.out 1).trans rfl
       have hfs21 := blk_frozen BK258.out 1
       have hns21_0 := NB253_258.out
       have hms21_0 := NB258_253.out
       refine skip_ (w1 := ?_) (by rfl) rfl ?_ ?_
       rotate_left
       ·go_simp
        rfl
       refine hK.out _ _ ?_
       clear hK K
       refine done_ (done_of HT_.out (by kernel_rfl)) ?_
       try go_wp2
       go_roundg k1
       case measure => have := HK1.out; omega
       case rel => exact ⟨(wrap64 (x5_1 + 1)), (t264), (t265), (t266), (y267), (.slice Ao20 y267.length co20), zr, H', ⟨by have := HK1.out; omega⟩, ⟨by (with_reducible repeat (first | apply Kd.R_alloc | apply Kd.R_drewN | apply Kd.R_drew)); exact Kd.R_mono (Kd.R_far (p := ⟨gb258, 1, none⟩) (Kd.R_types HO269.out BK258.out (by decide)) (fun _ hk => hk.2) (.slice Ao20 y267.length co20)) (fun _ hk => trivial)⟩, ⟨by (with_reducible repeat (first | refine blk_drewN ?_ _ | refine blk_drew ?_ | refine blk_alloc ?_ _)); refine blk_far ?_ NB253_258.out _; (with_reducible repeat (first | refine blk_drewN ?_ _ | refine blk_drew ?_ | refine blk_alloc ?_ _)); exact BK253.out⟩, ⟨by (with_reducible repeat (first | refine blk_drewN ?_ _ | refine blk_drew ?_ | refine blk_alloc ?_ _)); refine blk_put (cs := #[.int .i64 t254, u259001, .slice none 0 0, .slice none 0 0]) ?_ 1 _ rfl; (with_reducible repeat (first | refine blk_drewN ?_ _ | refine blk_drew ?_ | refine blk_alloc ?_ _)); exact BK258.out⟩, ⟨zi6⟩, ⟨zk⟩, ⟨zb⟩⟩
      ·rw [if_neg c15] at H
       exact absurd H (by simp)
     ·rw [if_neg c13] at H
      have c13b0 : (x1002_1 == 0) = false := beq_eq_false_iff_ne.mpr c13
      have c13b1 : (x1002_1 != 0) = true := bne_iff_ne.mpr c13
      have H' := Aside0.mk H
      clear H
      obtain ⟨HGz22, hgz22⟩ := HI0.out
      have hcz22_0 := cellS116_0 HGz22
      have hcz22_1 := cellS116_1 HGz22
      have hcz22_2 := cellS116_2 HGz22
      have hfz22_0 := blk_frozen HGz22 0
      have hfz22_1 := blk_frozen HGz22 1
      have hfz22_2 := blk_frozen HGz22 2
      clear HGz22 hgz22
      go_wp2
      go_meet
      case rel => exact ⟨_, (x1000_1), (x1001_1), (x1002_1), (x259001_1), (u259001), H', ⟨by have := HK1.out; first | omega | exact Nat.le_refl _⟩, ⟨by (with_reducible repeat (first | apply Kd.R_alloc | apply Kd.R_drewN | apply Kd.R_drew)); exact HO_259001.out⟩, ⟨by (with_reducible repeat (first | refine blk_drewN ?_ _ | refine blk_drew ?_ | refine blk_alloc ?_ _)); exact BK253.out⟩, ⟨by (with_reducible repeat (first | refine blk_drewN ?_ _ | refine blk_drew ?_ | refine blk_alloc ?_ _)); exact BK258.out⟩, ⟨zi6⟩, ⟨zk⟩, ⟨zb⟩⟩
    ·rw [if_neg c12] at H
     have c12b0 : decide (x5_1 < t259) = false := decide_eq_false c12
     clear c12
     (first | rw [c12b0] | (simp only [i64_w]; rw [c12b0]) | skip)
     have H' := Aside0.mk H
     clear H
     go_wp2
     go_meet
     case rel => exact ⟨_, (x1000_1), (x1001_1), (x1002_1), (x259001_1), (u259001), H', ⟨by have := HK1.out; first | omega | exact Nat.le_refl _⟩, ⟨by (with_reducible repeat (first | apply Kd.R_alloc | apply Kd.R_drewN | apply Kd.R_drew)); exact HO_259001.out⟩, ⟨by (with_reducible repeat (first | refine blk_drewN ?_ _ | refine blk_drew ?_ | refine blk_alloc ?_ _)); exact BK253.out⟩, ⟨by (with_reducible repeat (first | refine blk_drewN ?_ _ | refine blk_drew ?_ | refine blk_alloc ?_ _)); exact BK258.out⟩, ⟨zi6⟩, ⟨zk⟩, ⟨zb⟩⟩
 case rest =>
  clear HC4
  try clear c1
  try clear p2
  try clear c6
  try clear p6
  try clear c8
  try clear c9
  try clear c10
  try clear c12
  try clear c12b0
  try clear c13
  try clear c13b0
  try clear c13b1
  try clear c15
  try clear hcz10_0
  try clear hcz10_1
  try clear hcz10_2
  try clear hcz10_3
  try clear hcz16_0
  try clear hcz16_1
  try clear hcz16_2
  try clear hcz22_0
  try clear hcz22_1
  try clear hcz22_2
  try clear hfz10_0
  try clear hfz10_1
  try clear hfz10_2
  try clear hfz10_3
  try clear hfz16_0
  try clear hfz16_1
  try clear hfz16_2
  try clear hfz22_0
  try clear hfz22_1
  try clear hfz22_2
  try clear p2
  obtain ⟨kq, x1000_3, x1001_3, x1002_3, x259001_3, u259001, HA, HJ3, HO_259001, BK253, BK258, HI0, HK, HB⟩ := hcut
  cases kq with
  | zero => exact absurd HA.out (by simp [dioramaref24_getNode.j1])
  | succ kj3 =>
   have H := HA.out
   clear HA
   simp only [dioramaref24_getNode.j1] at H
   replace H := Option.bind_eq_some_iff.mp H
   obtain ⟨⟨t270, t271, t272, t273⟩, A230, H⟩ := H
   replace H : (dioramaref24_getNode.l1 kj3 t270 0 t271 t272 t273 t254 x259001_3 ([] : List ByteArray)) = some (r1, r2, r3, r4, r5, r6, r7) := H
   have A23 := Aside0.mk A230
   clear A230
   have HC24 := Aside0.mk H
   clear H
   go_upto_block 2 with (first | ((with_reducible refine gate_callee (f := 67) rfl ?_); refine goesL_ (some 33) rfl rfl Try.func67 (by kernel_rfl) rfl #[.pointer (some ⟨g, 0, none⟩), .int .u64 16777216] rfl zm ?_; (with_reducible refine (dioramaref02_Cursor_Uint.calls kj3 g x1000_3 x1001_3 x1002_3 16777216 t270 t271 t272 t273 w0 _ ?side1 ?side2 A23.out).mono ?_); (case side1 => exact zi6); (case side2 => exact zb); rintro e w25 ⟨rfl, hi, hb, hk⟩; refine ⟨_, rfl, ?_⟩; have n0_ := Aside0.mk (Kd.R_mono (Kd.R_keep (IsS116.apart (show IsS116 w0 _ g x1000_3 x1001_3 x1002_3 from zi6) (by (with_reducible repeat (first | apply Kd.R_alloc | apply Kd.R_drewN | apply Kd.R_drew)); exact HO_259001.out) (by decide)) hk (fun _ h => h.2)) (fun _ h => h.1)); have n1_ := Aside0.mk (KeepBut.blk hk (g' := gb253) (o := .cells #[.int .i64 0, .slice none 0 0, .slice none 0 0, .slice none 0 0] 105 (0, 0)) (by (with_reducible repeat (first | refine blk_drewN ?_ _ | refine blk_drew ?_ | refine blk_alloc ?_ _)); exact BK253.out) NB253_0.out (by simp)); have n2_ := Aside0.mk (KeepBut.blk hk (g' := gb258) (o := .cells #[.int .i64 t254, u259001, .slice none 0 0, .slice none 0 0] 105 (0, 0)) (by (with_reducible repeat (first | refine blk_drewN ?_ _ | refine blk_drew ?_ | refine blk_alloc ?_ _)); exact BK258.out) NB258_0.out (by simp)); have n3_ := Aside0.mk (KeepBut.trans zk hk (.inl rfl)); have n4_ := Aside0.mk (hb); have n5_ := Aside0.mk (hi); clear HO_259001; clear BK253; clear BK258; clear HK; clear HB; clear HI0; have HO_259001 := n0_; have BK253 := n1_; have BK258 := n2_; have HK := n3_; have HB := n4_; have HI0 := n5_; clear n0_ n1_ n2_ n3_ n4_ n5_; (try clear hb); (try clear hb2); (try clear hk); (try clear hi)))
   (try simp only [Act.put, zq1, zq2, zq3])
   go_cut [] (fun wc => ∃ (kq : Nat) (x1000_23 : ByteArray) (x1001_23 : Int) (x1002_23 : Int) (x259002_23 : List ByteArray) (u259002 : Value), Aside0 (dioramaref24_getNode.j3 kq x1000_23 x1001_23 x1002_23 t254 x259001_3 x259002_23 = some (r1, r2, r3, r4, r5, r6, r7)) ∧ Aside0 (kq ≤ kj3) ∧ Aside0 (Kd.R (Kd.int .i64) 2 wc w.heap.size (fun _ => True) u259001 x259001_3) ∧ Aside0 (Kd.R Kd.string 9 wc w.heap.size (fun _ => True) u259002 x259002_23) ∧ Aside0 (wc.heap[gb253]? = some (.cells #[.int .i64 0, (.slice none 0 0), (.slice none 0 0), (.slice none 0 0)] 105 (0, 0))) ∧ Aside0 (wc.heap[gb258]? = some (.cells #[.int .i64 t254, u259001, u259002, (.slice none 0 0)] 105 (0, 0))) ∧ Aside0 (IsS116 w0 wc g x1000_23 x1001_23 x1002_23) ∧ Aside0 (KeepBut w wc g none) ∧ Aside0 (Below w0.heap.size w0 wc))
   case first =>
    have H := HC24.out
    clear HC24
    have H' := Aside0.mk H
    clear H
    go_wp2
    go_loopg [6] kj3 (fun kq v6 w' => ∃ (x6_2 : Int) (x1000_2 : ByteArray) (x1001_2 : Int) (x1002_2 : Int) (x259002_2 : List ByteArray) (u259002 : Value), v6 = .int .i64 x6_2 ∧ Aside0 (dioramaref24_getNode.l1 kq t270 x6_2 x1000_2 x1001_2 x1002_2 t254 x259001_3 x259002_2 = some (r1, r2, r3, r4, r5, r6, r7)) ∧ Aside0 (kq ≤ kj3) ∧ Aside0 (Kd.R (Kd.int .i64) 2 w' w.heap.size (fun _ => True) u259001 x259001_3) ∧ Aside0 (Kd.R Kd.string 9 w' w.heap.size (fun _ => True) u259002 x259002_2) ∧ Aside0 (w'.heap[gb253]? = some (.cells #[.int .i64 0, (.slice none 0 0), (.slice none 0 0), (.slice none 0 0)] 105 (0, 0))) ∧ Aside0 (w'.heap[gb258]? = some (.cells #[.int .i64 t254, u259001, u259002, (.slice none 0 0)] 105 (0, 0))) ∧ Aside0 (IsS116 w0 w' g x1000_2 x1001_2 x1002_2) ∧ Aside0 (KeepBut w w' g none) ∧ Aside0 (Below w0.heap.size w0 w'))
    case atStart => exact ⟨(0), (t271), (t272), (t273), (([] : List ByteArray)), (.slice none 0 0), zr, H', ⟨Nat.le_refl _⟩, ⟨by (with_reducible repeat (first | apply Kd.R_alloc | apply Kd.R_drewN | apply Kd.R_drew)); exact HO_259001.out⟩, ⟨by first | exact Kd.R_nil _ _ _ _ _ | exact Kd.N_nil _ _ _ _ _ | exact Kd.V_nil _ _ _ _ _ | exact Kd.Q_nil _ _ _ _ _ | exact Kd.S_nil _ _ _ _ _⟩, ⟨by (with_reducible repeat (first | refine blk_drewN ?_ _ | refine blk_drew ?_ | refine blk_alloc ?_ _)); exact BK253.out⟩, ⟨by (with_reducible repeat (first | refine blk_drewN ?_ _ | refine blk_drew ?_ | refine blk_alloc ?_ _)); exact BK258.out⟩, ⟨zi6⟩, ⟨zk⟩, ⟨zb⟩⟩
    case round =>
     clear H'
     try clear c1
     try clear p2
     try clear c6
     try clear p6
     try clear c8
     try clear c9
     try clear c10
     try clear c12
     try clear c12b0
     try clear c13
     try clear c13b0
     try clear c13b1
     try clear c15
     try clear hcz10_0
     try clear hcz10_1
     try clear hcz10_2
     try clear hcz10_3
     try clear hcz16_0
     try clear hcz16_1
     try clear hcz16_2
     try clear hcz22_0
     try clear hcz22_1
     try clear hcz22_2
     try clear hfz10_0
     try clear hfz10_1
     try clear hfz10_2
     try clear hfz10_3
     try clear hfz16_0
     try clear hfz16_1
     try clear hfz16_2
     try clear hfz22_0
     try clear hfz22_1
     try clear hfz22_2
     try clear p2
     try clear p6
     obtain ⟨x6_2, x1000_2, x1001_2, x1002_2, x259002_2, u259002, rfl, HA, HK2, HO_259001, HO_259002, BK253, BK258, HI0, HK, HB⟩ := hrel
     cases gk with
     | zero => exact absurd HA.out (by simp [dioramaref24_getNode.l1])
     | succ k2 =>
      have H := HA.out
      clear HA
      simp only [dioramaref24_getNode.l1] at H
      by_cases c26 : x6_2 < t270
      ·rw [if_pos c26] at H
       have c26b0 : decide (x6_2 < t270) = true := decide_eq_true c26
       clear c26
       (first | rw [c26b0] | (simp only [i64_w]; rw [c26b0]) | skip)
       by_cases c27 : x1002_2 = 0
       ·rw [if_pos c27] at H
        have c27b0 : (x1002_2 == 0) = true := beq_iff_eq.mpr c27
        have c27b1 : (x1002_2 != 0) = false := bne_eq_false_iff_eq.mpr c27
        clear c27
        replace H := Option.bind_eq_some_iff.mp H
        obtain ⟨⟨t274, t275, t276, t277⟩, A280, H⟩ := H
        replace H : (if x259002_2.length < 8796093022208 then (dioramaref24_getNode.l1 k2 t270 (wrap64 (x6_2 + 1)) t275 t276 t277 t254 x259001_3 (x259002_2 ++ [t274])) else (none)) = some (r1, r2, r3, r4, r5, r6, r7) := H
        have A28 := Aside0.mk A280
        clear A280
        by_cases c29 : x259002_2.length < 8796093022208
        ·rw [if_pos c29] at H
         have LMc29 := Aside0.mk c29
         clear c29
         obtain ⟨y278, hy278⟩ : ∃ y_ : List ByteArray, y_ = (x259002_2 ++ [t274]) := ⟨_, rfl⟩
         replace H : (dioramaref24_getNode.l1 k2 t270 (wrap64 (x6_2 + 1)) t275 t276 t277 t254 x259001_3 y278) = some (r1, r2, r3, r4, r5, r6, r7) := by first | (rw [hy278]; with_reducible exact H) | (have H2_ := (Option.bind_some _ _).symm.trans H; rw [hy278]; with_reducible exact H2_) | (have H2_ := (Option.bind_some _ _).symm.trans H; with_reducible exact H2_) | with_reducible exact H | (rw [hy278]; exact H) | exact H
         have Ny278 := Aside0.mk hy278
         clear hy278
         have H' := Aside0.mk H
         clear H
         obtain ⟨HGz30, hgz30⟩ := HI0.out
         have hcz30_0 := cellS116_0 HGz30
         have hcz30_1 := cellS116_1 HGz30
         have hcz30_2 := cellS116_2 HGz30
         have hfz30_0 := blk_frozen HGz30 0
         have hfz30_1 := blk_frozen HGz30 1
         have hfz30_2 := blk_frozen HGz30 2
         clear HGz30 hgz30
         try go_wp2
         have n0_ := Aside0.mk (Kd.R_drew HO_259001.out)
         have n1_ := Aside0.mk (Kd.R_drew HO_259002.out)
         have n2_ := Aside0.mk (blk_drew BK253.out)
         have n3_ := Aside0.mk (blk_drew BK258.out)
         have n4_ := Aside0.mk (IsS116.drew HI0.out)
         have n5_ := Aside0.mk (keep_drew HK.out)
         have n6_ := Aside0.mk (below_drew1 HB.out)
         clear HO_259001
         clear HO_259002
         clear BK253
         clear BK258
         clear HI0
         clear HK
         clear HB
         have HO_259001 := n0_
         have HO_259002 := n1_
         have BK253 := n2_
         have BK258 := n3_
         have HI0 := n4_
         have HK := n5_
         have HB := n6_
         clear n0_ n1_ n2_ n3_ n4_ n5_ n6_
         refine start_ (n := 8) (S := fun w' => w'.cell? ⟨gb258, 0, none⟩ = some (.int .i64 t254) ∧ w'.cell? ⟨gb258, 1, none⟩ = some (u259001) ∧ w'.cell? ⟨gb258, 2, none⟩ = some (u259002) ∧ w'.cell? ⟨gb258, 3, none⟩ = some (.slice none 0 0)) (ds := [7]) #[false, false, false, false, false, false, false, false] (by kernel_rfl) rfl rfl ⟨(blk_cell BK258.out 0).trans rfl, (blk_cell BK258.out 1).trans rfl, (blk_cell BK258.out 2).trans rfl, (blk_cell BK258.out 3).trans rfl⟩ (fun hHeld => ?_); refine with_tabW dioramaref24_getNode.tab11 dioramaref24_getNode.bits11 (fun HT_ HW_ => ?_)
         generalize wr.drew = w31 at HO_259001 HO_259002 BK253 BK258 HI0 HK HB hHeld ⊢
         refine pure_ (i := 0) (N := some 46) (v := ?_) (a' := ?_) #[true, false, false, false, false, false, false, false] rfl rfl (any_of HT_.out (by kernel_rfl)) (fun _ _ _ h => h) (Or.inl ⟨by rfl, ?_⟩) ?_ ?_
         rotate_left
         ·intro w'
          go_simp
          with_reducible rfl
         rotate_left
         ·simp only [Act.put, zq1, zq2, zq3, i64_w]
          rfl
         refine pure_ (i := 2) (N := some 48) (v := ?_) (a' := ?_) #[true, false, true, false, false, false, false, false] rfl rfl (any_of HT_.out (by kernel_rfl)) (fun _ _ _ h => h) (Or.inl ⟨by rfl, ?_⟩) ?_ ?_
         rotate_left
         ·intro w'
          go_simp
          with_reducible rfl
         rotate_left
         ·simp only [Act.put, zq1, zq2, zq3, i64_w]
          rfl
         refine take_ (i := 1) (N := some 47) (v := ?_) (a' := ?_) #[true, true, true, false, false, false, false, false] rfl rfl (take_ofW HT_.out HW_.out (by kernel_rfl)) (fun _ _ _ h => h) (Or.inl ⟨by rfl, ?_⟩) hHeld ?_ ?_
         rotate_left
         ·rintro w' ⟨s0, s1, s2, s3⟩
          go_simp
          with_reducible rfl
         rotate_left
         ·simp only [Act.put, zq1, zq2, zq3, i64_w]
          rfl
         refine one_ (i := 3) (N := some 49) #[true, true, true, true, false, false, false, false] rfl rfl (one_of HT_.out (by kernel_rfl)) (by decide) (fun K hK => ?_)
         refine goes_ Try.func107 (by kernel_rfl) rfl #[.pointer (some ⟨g, 0, none⟩), .int .i64 16777216] (by rfl) rfl rfl zm ?_
         with_reducible refine (dioramaref02_Cursor_Text.calls k2 g x1000_2 x1001_2 x1002_2 16777216 t274 t275 t276 t277 w0 _ ?side1 ?side2 A28.out).mono ?_
         (case side1 => exact zi6)
         (case side2 => exact zb)
         rintro e w32 ⟨rfl, hi, hb, hk⟩
         refine ⟨_, rfl, ?_⟩
         have n0_ := Aside0.mk (Kd.R_mono (Kd.R_keep (IsS116.apart (show IsS116 w0 _ g x1000_2 x1001_2 x1002_2 from zi6) (by (with_reducible repeat (first | apply Kd.R_alloc | apply Kd.R_drewN | apply Kd.R_drew)); exact HO_259001.out) (by decide)) hk (fun _ h => h.2)) (fun _ h => h.1))
         have n1_ := Aside0.mk (Kd.R_mono (Kd.R_keep (IsS116.apart (show IsS116 w0 _ g x1000_2 x1001_2 x1002_2 from zi6) (by (with_reducible repeat (first | apply Kd.R_alloc | apply Kd.R_drewN | apply Kd.R_drew)); exact HO_259002.out) (by decide)) hk (fun _ h => h.2)) (fun _ h => h.1))
         have n2_ := Aside0.mk (KeepBut.blk hk (g' := gb253) (o := .cells #[.int .i64 0, .slice none 0 0, .slice none 0 0, .slice none 0 0] 105 (0, 0)) (by (with_reducible repeat (first | refine blk_drewN ?_ _ | refine blk_drew ?_ | refine blk_alloc ?_ _)); exact BK253.out) NB253_0.out (by simp))
         have n3_ := Aside0.mk (KeepBut.blk hk (g' := gb258) (o := .cells #[.int .i64 t254, u259001, u259002, .slice none 0 0] 105 (0, 0)) (by (with_reducible repeat (first | refine blk_drewN ?_ _ | refine blk_drew ?_ | refine blk_alloc ?_ _)); exact BK258.out) NB258_0.out (by simp))
         have n4_ := Aside0.mk (KeepBut.trans zk hk (.inl rfl))
         have n5_ := Aside0.mk (hb)
         have n6_ := Aside0.mk (hi)
         clear HO_259001
         clear HO_259002
         clear BK253
         clear BK258
         clear HK
         clear HB
         clear HI0
         have HO_259001 := n0_
         have HO_259002 := n1_
         have BK253 := n2_
         have BK258 := n3_
         have HK := n4_
         have HB := n5_
         have HI0 := n6_
         clear n0_ n1_ n2_ n3_ n4_ n5_ n6_
         (try clear hb)
         (try clear hb2)
         (try clear hk)
         (try clear hi)
         refine hK.out _ _ ⟨(blk_cell BK258.out 0).trans rfl, (blk_cell BK258.out 1).trans rfl, (blk_cell BK258.out 2).trans rfl, (blk_cell BK258.out 3).trans rfl⟩ (fun hHeld => ?_)
         clear hK K
         refine norm_ (a' := ?_) ?_ ?_
         rotate_left
         ·show Act.put _ (some 49) _ = _
          simp only [Act.put, zq1, zq2, zq3, i64_w]
          rfl
         refine one_ (i := 4) (N := some 50) #[true, true, true, true, true, false, false, false] rfl rfl (one_of HT_.out (by kernel_rfl)) (by decide) (fun K hK => ?_)
         refine value_ (w1 := ?_) (v := ?_) (by rfl) rfl ?_ ?_
         rotate_left 2
         ·go_simp
          constructor
          ·rfl
          ·rfl
         refine hK.out _ _ ⟨(blk_cell (blk_alloc BK258.out _) 0).trans rfl, (blk_cell (blk_alloc BK258.out _) 1).trans rfl, (blk_cell (blk_alloc BK258.out _) 2).trans rfl, (blk_cell (blk_alloc BK258.out _) 3).trans rfl⟩ (fun hHeld => ?_)
         clear hK K
         refine norm_ (a' := ?_) ?_ ?_
         rotate_left
         ·show Act.put _ (some 50) _ = _
          simp only [Act.put, zq1, zq2, zq3, i64_w]
          rfl
         refine one_ (i := 5) (N := some 51) #[true, true, true, true, true, true, false, false] rfl rfl (one_of HT_.out (by kernel_rfl)) (by decide) (fun K hK => ?_)
         refine Kd.R_append_step Kd.string w.heap.size (by rfl) (.tmp 47) (.tmp 50) 102 9 (.string ⟨#[]⟩) 16 rfl Try.underlying102 info9 rfl (by decide) (by omega) u259002 x259002_2 t274 [.string t274] (fun _ => True) (fun _ => False) rfl rfl ?aP (fun _ hk => hk.elim) ?aF ?aO (Below.refl _ _) ?aS ?aL ?_
         (case aP => exact rfl)
         (case aF => exact (fun _ _ => trivial))
         (case aO => exact (by (with_reducible repeat (first | apply Kd.R_alloc | apply Kd.R_drewN | apply Kd.R_drew)); exact HO_259002.out))
         (case aS => exact (keep_size (w := w) (g := g) (row := none) zk))
         (case aL => have := LMc29.out; omega)
         intro v279 w33 ho hb hg hat
         rw [← Ny278.out] at ho
         have n0_ := Aside0.mk (Kd.R_over' (by (with_reducible repeat (first | apply Kd.R_alloc | apply Kd.R_drewN | apply Kd.R_drew)); exact HO_259001.out) (Kd.R_typed (by (with_reducible repeat (first | apply Kd.R_alloc | apply Kd.R_drewN | apply Kd.R_drew)); exact HO_259002.out)) (by decide) hg)
         have n1_ := Aside0.mk (blk_grown (g := gb253) (o := .cells #[.int .i64 0, .slice none 0 0, .slice none 0 0, .slice none 0 0] 105 (0, 0)) (by (with_reducible repeat (first | refine blk_drewN ?_ _ | refine blk_drew ?_ | refine blk_alloc ?_ _)); exact BK253.out) hg (Kd.R_ne HO_259002.out BK253.out (by decide)))
         have n2_ := Aside0.mk (blk_grown (g := gb258) (o := .cells #[.int .i64 t254, u259001, u259002, .slice none 0 0] 105 (0, 0)) (by (with_reducible repeat (first | refine blk_drewN ?_ _ | refine blk_drew ?_ | refine blk_alloc ?_ _)); exact BK258.out) hg (Kd.R_ne HO_259002.out BK258.out (by decide)))
         have n3_ := Aside0.mk (IsS116.grown zi6 hg (IsS116.own_ne HI0.out HO_259002.out (by decide)))
         have n4_ := Aside0.mk (below_weaken zb HL.out hb)
         have n5_ := Aside0.mk (KeepBut.trans zk (KeepBut.of_grown hg g) (Kd.R_base2 HO_259002.out))
         have n6_ := Aside0.mk (ho)
         clear HO_259001
         clear BK253
         clear BK258
         clear HI0
         clear HB
         clear HK
         clear HO_259002
         have HO_259001 := n0_
         have BK253 := n1_
         have BK258 := n2_
         have HI0 := n3_
         have HB := n4_
         have HK := n5_
         have HO280 := n6_
         clear n0_ n1_ n2_ n3_ n4_ n5_ n6_
         clear ho hb hg hat
         obtain ⟨Ao34, co34, eo34⟩ := Kd.R_slice HO280.out
         (first | subst eo34 | (injection eo34 with f1_ f2_ f3_; have f4_ := f1_.symm; have f5_ := f3_.symm; clear f1_ f2_ f3_; subst f4_; subst f5_))
         refine hK.out _ _ ⟨(blk_cell BK258.out 0).trans rfl, (blk_cell BK258.out 1).trans rfl, (blk_cell BK258.out 2).trans rfl, (blk_cell BK258.out 3).trans rfl⟩ (fun hHeld => ?_)
         clear hK K
         refine norm_ (a' := ?_) ?_ ?_
         rotate_left
         ·show Act.put _ (some 51) _ = _
          simp only [Act.put, zq1, zq2, zq3, i64_w]
          rfl
         refine pure_ (i := 6) (N := some 52) (v := ?_) (a' := ?_) #[true, true, true, true, true, true, true, false] rfl rfl (any_of HT_.out (by kernel_rfl)) (fun _ _ _ h => h) (Or.inl ⟨by rfl, ?_⟩) ?_ ?_
         rotate_left
         ·intro w'
          go_simp
          with_reducible rfl
         rotate_left
         ·simp only [Act.put, zq1, zq2, zq3, i64_w]
          rfl
         refine last_ (i := 7) (N := none) #[true, true, true, true, true, true, true, true] rfl rfl (one_of HT_.out (by kernel_rfl)) (by decide) (fun K hK => ?_)
         have hs35 : w33.cell? ⟨gb258, 2, none⟩ = some (u259002) := (blk_cell BK258.out 2).trans rfl
         have hfs35 := blk_frozen BK258.out 2
         have hns35_0 := NB253_258.out
         have hms35_0 := NB258_253.out
         refine skip_ (w1 := ?_) (by rfl) rfl ?_ ?_
         rotate_left
         ·go_simp
          rfl
         refine hK.out _ _ ?_
         clear hK K
         refine done_ (done_of HT_.out (by kernel_rfl)) ?_
         try go_wp2
         go_roundg k2
         case measure => have := HJ3.out; have := HK2.out; omega
         case rel => exact ⟨(wrap64 (x6_2 + 1)), (t275), (t276), (t277), (y278), (.slice Ao34 y278.length co34), zr, H', ⟨by have := HJ3.out; have := HK2.out; omega⟩, ⟨by (with_reducible repeat (first | apply Kd.R_alloc | apply Kd.R_drewN | apply Kd.R_drew)); exact Kd.R_mono (Kd.R_far (p := ⟨gb258, 2, none⟩) (Kd.R_types HO_259001.out BK258.out (by decide)) (fun _ hk => hk.2) (.slice Ao34 y278.length co34)) (fun _ hk => trivial)⟩, ⟨by (with_reducible repeat (first | apply Kd.R_alloc | apply Kd.R_drewN | apply Kd.R_drew)); exact Kd.R_mono (Kd.R_far (p := ⟨gb258, 2, none⟩) (Kd.R_types HO280.out BK258.out (by decide)) (fun _ hk => hk.2) (.slice Ao34 y278.length co34)) (fun _ hk => trivial)⟩, ⟨by (with_reducible repeat (first | refine blk_drewN ?_ _ | refine blk_drew ?_ | refine blk_alloc ?_ _)); refine blk_far ?_ NB253_258.out _; (with_reducible repeat (first | refine blk_drewN ?_ _ | refine blk_drew ?_ | refine blk_alloc ?_ _)); exact BK253.out⟩, ⟨by (with_reducible repeat (first | refine blk_drewN ?_ _ | refine blk_drew ?_ | refine blk_alloc ?_ _)); refine blk_put (cs := #[.int .i64 t254, u259001, u259002, .slice none 0 0]) ?_ 2 _ rfl; (with_reducible repeat (first | refine blk_drewN ?_ _ | refine blk_drew ?_ | refine blk_alloc ?_ _)); exact BK258.out⟩, ⟨zi6⟩, ⟨zk⟩, ⟨zb⟩⟩
        ·rw [if_neg c29] at H
         exact absurd H (by simp)
       ·rw [if_neg c27] at H
        have c27b0 : (x1002_2 == 0) = false := beq_eq_false_iff_ne.mpr c27
        have c27b1 : (x1002_2 != 0) = true := bne_iff_ne.mpr c27
        have H' := Aside0.mk H
        clear H
        obtain ⟨HGz36, hgz36⟩ := HI0.out
        have hcz36_0 := cellS116_0 HGz36
        have hcz36_1 := cellS116_1 HGz36
        have hcz36_2 := cellS116_2 HGz36
        have hfz36_0 := blk_frozen HGz36 0
        have hfz36_1 := blk_frozen HGz36 1
        have hfz36_2 := blk_frozen HGz36 2
        clear HGz36 hgz36
        go_wp2
        go_meet
        case rel => exact ⟨_, (x1000_2), (x1001_2), (x1002_2), (x259002_2), (u259002), H', ⟨by have := HJ3.out; have := HK2.out; first | omega | exact Nat.le_refl _⟩, ⟨by (with_reducible repeat (first | apply Kd.R_alloc | apply Kd.R_drewN | apply Kd.R_drew)); exact HO_259001.out⟩, ⟨by (with_reducible repeat (first | apply Kd.R_alloc | apply Kd.R_drewN | apply Kd.R_drew)); exact HO_259002.out⟩, ⟨by (with_reducible repeat (first | refine blk_drewN ?_ _ | refine blk_drew ?_ | refine blk_alloc ?_ _)); exact BK253.out⟩, ⟨by (with_reducible repeat (first | refine blk_drewN ?_ _ | refine blk_drew ?_ | refine blk_alloc ?_ _)); exact BK258.out⟩, ⟨zi6⟩, ⟨zk⟩, ⟨zb⟩⟩
      ·rw [if_neg c26] at H
       have c26b0 : decide (x6_2 < t270) = false := decide_eq_false c26
       clear c26
       (first | rw [c26b0] | (simp only [i64_w]; rw [c26b0]) | skip)
       have H' := Aside0.mk H
       clear H
       go_wp2
       go_meet
       case rel => exact ⟨_, (x1000_2), (x1001_2), (x1002_2), (x259002_2), (u259002), H', ⟨by have := HJ3.out; have := HK2.out; first | omega | exact Nat.le_refl _⟩, ⟨by (with_reducible repeat (first | apply Kd.R_alloc | apply Kd.R_drewN | apply Kd.R_drew)); exact HO_259001.out⟩, ⟨by (with_reducible repeat (first | apply Kd.R_alloc | apply Kd.R_drewN | apply Kd.R_drew)); exact HO_259002.out⟩, ⟨by (with_reducible repeat (first | refine blk_drewN ?_ _ | refine blk_drew ?_ | refine blk_alloc ?_ _)); exact BK253.out⟩, ⟨by (with_reducible repeat (first | refine blk_drewN ?_ _ | refine blk_drew ?_ | refine blk_alloc ?_ _)); exact BK258.out⟩, ⟨zi6⟩, ⟨zk⟩, ⟨zb⟩⟩
   case rest =>
    clear HC24
    try clear c1
    try clear c2
    try clear p2
    try clear c6
    try clear p6
    try clear c8
    try clear c9
    try clear c10
    try clear c12
    try clear c12b0
    try clear c13
    try clear c13b0
    try clear c13b1
    try clear c15
    try clear c26
    try clear c26b0
    try clear c27
    try clear c27b0
    try clear c27b1
    try clear c29
    try clear hcz10_0
    try clear hcz10_1
    try clear hcz10_2
    try clear hcz10_3
    try clear hcz16_0
    try clear hcz16_1
    try clear hcz16_2
    try clear hcz22_0
    try clear hcz22_1
    try clear hcz22_2
    try clear hcz30_0
    try clear hcz30_1
    try clear hcz30_2
    try clear hcz36_0
    try clear hcz36_1
    try clear hcz36_2
    try clear hfz10_0
    try clear hfz10_1
    try clear hfz10_2
    try clear hfz10_3
    try clear hfz16_0
    try clear hfz16_1
    try clear hfz16_2
    try clear hfz22_0
    try clear hfz22_1
    try clear hfz22_2
    try clear hfz30_0
    try clear hfz30_1
    try clear hfz30_2
    try clear hfz36_0
    try clear hfz36_1
    try clear hfz36_2
    try clear p2
    try clear p6
    obtain ⟨kq, x1000_23, x1001_23, x1002_23, x259002_23, u259002, HA, HJ23, HO_259001, HO_259002, BK253, BK258, HI0, HK, HB⟩ := hcut
    cases kq with
    | zero => exact absurd HA.out (by simp [dioramaref24_getNode.j3])
    | succ kj23 =>
     have H := HA.out
     clear HA
     simp only [dioramaref24_getNode.j3] at H
     replace H := Option.bind_eq_some_iff.mp H
     obtain ⟨⟨t281, t282, t283, t284⟩, A370, H⟩ := H
     replace H : (dioramaref24_getNode.l2 kj23 t281 0 t282 t283 t284 t254 x259001_3 x259002_23 ([] : List Int)) = some (r1, r2, r3, r4, r5, r6, r7) := H
     have A37 := Aside0.mk A370
     clear A370
     have H' := Aside0.mk H
     clear H
     go_wp2_with (first | ((with_reducible refine gate_callee (f := 67) rfl ?_); refine goesL_ (some 54) rfl rfl Try.func67 (by kernel_rfl) rfl #[.pointer (some ⟨g, 0, none⟩), .int .u64 16777216] rfl zm ?_; (with_reducible refine (dioramaref02_Cursor_Uint.calls kj23 g x1000_23 x1001_23 x1002_23 16777216 t281 t282 t283 t284 w0 _ ?side1 ?side2 A37.out).mono ?_); (case side1 => exact zi6); (case side2 => exact zb); rintro e w38 ⟨rfl, hi, hb, hk⟩; refine ⟨_, rfl, ?_⟩; have n0_ := Aside0.mk (Kd.R_mono (Kd.R_keep (IsS116.apart (show IsS116 w0 _ g x1000_23 x1001_23 x1002_23 from zi6) (by (with_reducible repeat (first | apply Kd.R_alloc | apply Kd.R_drewN | apply Kd.R_drew)); exact HO_259001.out) (by decide)) hk (fun _ h => h.2)) (fun _ h => h.1)); have n1_ := Aside0.mk (Kd.R_mono (Kd.R_keep (IsS116.apart (show IsS116 w0 _ g x1000_23 x1001_23 x1002_23 from zi6) (by (with_reducible repeat (first | apply Kd.R_alloc | apply Kd.R_drewN | apply Kd.R_drew)); exact HO_259002.out) (by decide)) hk (fun _ h => h.2)) (fun _ h => h.1)); have n2_ := Aside0.mk (KeepBut.blk hk (g' := gb253) (o := .cells #[.int .i64 0, .slice none 0 0, .slice none 0 0, .slice none 0 0] 105 (0, 0)) (by (with_reducible repeat (first | refine blk_drewN ?_ _ | refine blk_drew ?_ | refine blk_alloc ?_ _)); exact BK253.out) NB253_0.out (by simp)); have n3_ := Aside0.mk (KeepBut.blk hk (g' := gb258) (o := .cells #[.int .i64 t254, u259001, u259002, .slice none 0 0] 105 (0, 0)) (by (with_reducible repeat (first | refine blk_drewN ?_ _ | refine blk_drew ?_ | refine blk_alloc ?_ _)); exact BK258.out) NB258_0.out (by simp)); have n4_ := Aside0.mk (KeepBut.trans zk hk (.inl rfl)); have n5_ := Aside0.mk (hb); have n6_ := Aside0.mk (hi); clear HO_259001; clear HO_259002; clear BK253; clear BK258; clear HK; clear HB; clear HI0; have HO_259001 := n0_; have HO_259002 := n1_; have BK253 := n2_; have BK258 := n3_; have HK := n4_; have HB := n5_; have HI0 := n6_; clear n0_ n1_ n2_ n3_ n4_ n5_ n6_; (try clear hb); (try clear hb2); (try clear hk); (try clear hi)))
     go_loopg [7] kj23 (fun kq v7 w' => ∃ (x7_3 : Int) (x1000_3 : ByteArray) (x1001_3 : Int) (x1002_3 : Int) (x259003_3 : List Int) (u259003 : Value), v7 = .int .i64 x7_3 ∧ Aside0 (dioramaref24_getNode.l2 kq t281 x7_3 x1000_3 x1001_3 x1002_3 t254 x259001_3 x259002_23 x259003_3 = some (r1, r2, r3, r4, r5, r6, r7)) ∧ Aside0 (kq ≤ kj23) ∧ Aside0 (Kd.R (Kd.int .i64) 2 w' w.heap.size (fun _ => True) u259001 x259001_3) ∧ Aside0 (Kd.R Kd.string 9 w' w.heap.size (fun _ => True) u259002 x259002_23) ∧ Aside0 (Kd.R (Kd.int .i64) 3 w' w.heap.size (fun _ => True) u259003 x259003_3) ∧ Aside0 (w'.heap[gb253]? = some (.cells #[.int .i64 0, (.slice none 0 0), (.slice none 0 0), (.slice none 0 0)] 105 (0, 0))) ∧ Aside0 (w'.heap[gb258]? = some (.cells #[.int .i64 t254, u259001, u259002, u259003] 105 (0, 0))) ∧ Aside0 (IsS116 w0 w' g x1000_3 x1001_3 x1002_3) ∧ Aside0 (KeepBut w w' g none) ∧ Aside0 (Below w0.heap.size w0 w'))
     case atStart => exact ⟨(0), (t282), (t283), (t284), (([] : List Int)), (.slice none 0 0), zr, H', ⟨Nat.le_refl _⟩, ⟨by (with_reducible repeat (first | apply Kd.R_alloc | apply Kd.R_drewN | apply Kd.R_drew)); exact HO_259001.out⟩, ⟨by (with_reducible repeat (first | apply Kd.R_alloc | apply Kd.R_drewN | apply Kd.R_drew)); exact HO_259002.out⟩, ⟨by first | exact Kd.R_nil _ _ _ _ _ | exact Kd.N_nil _ _ _ _ _ | exact Kd.V_nil _ _ _ _ _ | exact Kd.Q_nil _ _ _ _ _ | exact Kd.S_nil _ _ _ _ _⟩, ⟨by (with_reducible repeat (first | refine blk_drewN ?_ _ | refine blk_drew ?_ | refine blk_alloc ?_ _)); exact BK253.out⟩, ⟨by (with_reducible repeat (first | refine blk_drewN ?_ _ | refine blk_drew ?_ | refine blk_alloc ?_ _)); exact BK258.out⟩, ⟨zi6⟩, ⟨zk⟩, ⟨zb⟩⟩
     case round =>
      clear H'
      try clear c1
      try clear c2
      try clear p2
      try clear c6
      try clear p6
      try clear c8
      try clear c9
      try clear c10
      try clear c12
      try clear c12b0
      try clear c13
      try clear c13b0
      try clear c13b1
      try clear c15
      try clear c26
      try clear c26b0
      try clear c27
      try clear c27b0
      try clear c27b1
      try clear c29
      try clear hcz10_0
      try clear hcz10_1
      try clear hcz10_2
      try clear hcz10_3
      try clear hcz16_0
      try clear hcz16_1
      try clear hcz16_2
      try clear hcz22_0
      try clear hcz22_1
      try clear hcz22_2
      try clear hcz30_0
      try clear hcz30_1
      try clear hcz30_2
      try clear hcz36_0
      try clear hcz36_1
      try clear hcz36_2
      try clear hfz10_0
      try clear hfz10_1
      try clear hfz10_2
      try clear hfz10_3
      try clear hfz16_0
      try clear hfz16_1
      try clear hfz16_2
      try clear hfz22_0
      try clear hfz22_1
      try clear hfz22_2
      try clear hfz30_0
      try clear hfz30_1
      try clear hfz30_2
      try clear hfz36_0
      try clear hfz36_1
      try clear hfz36_2
      try clear p2
      try clear p6
      obtain ⟨x7_3, x1000_3, x1001_3, x1002_3, x259003_3, u259003, rfl, HA, HK3, HO_259001, HO_259002, HO_259003, BK253, BK258, HI0, HK, HB⟩ := hrel
      cases gk with
      | zero => exact absurd HA.out (by simp [dioramaref24_getNode.l2])
      | succ k3 =>
       have H := HA.out
       clear HA
       simp only [dioramaref24_getNode.l2] at H
       by_cases c39 : x7_3 < t281
       ·rw [if_pos c39] at H
        have c39b0 : decide (x7_3 < t281) = true := decide_eq_true c39
        clear c39
        by_cases c40 : x1002_3 = 0
        ·rw [if_pos c40] at H
         have c40b0 : (x1002_3 == 0) = true := beq_iff_eq.mpr c40
         have c40b1 : (x1002_3 != 0) = false := bne_eq_false_iff_eq.mpr c40
         clear c40
         replace H := Option.bind_eq_some_iff.mp H
         obtain ⟨⟨t285, t286, t287, t288⟩, A410, H⟩ := H
         replace H : (if x259003_3.length < 17592186044416 then (dioramaref24_getNode.l2 k3 t281 (wrap64 (x7_3 + 1)) t286 t287 t288 t254 x259001_3 x259002_23 (x259003_3 ++ [t285])) else (none)) = some (r1, r2, r3, r4, r5, r6, r7) := H
         have A41 := Aside0.mk A410
         clear A410
         by_cases c42 : x259003_3.length < 17592186044416
         ·rw [if_pos c42] at H
          have LMc42 := Aside0.mk c42
          clear c42
          obtain ⟨y289, hy289⟩ : ∃ y_ : List Int, y_ = (x259003_3 ++ [t285]) := ⟨_, rfl⟩
          replace H : (dioramaref24_getNode.l2 k3 t281 (wrap64 (x7_3 + 1)) t286 t287 t288 t254 x259001_3 x259002_23 y289) = some (r1, r2, r3, r4, r5, r6, r7) := by first | (rw [hy289]; with_reducible exact H) | (have H2_ := (Option.bind_some _ _).symm.trans H; rw [hy289]; with_reducible exact H2_) | (have H2_ := (Option.bind_some _ _).symm.trans H; with_reducible exact H2_) | with_reducible exact H | (rw [hy289]; exact H) | exact H
          have Ny289 := Aside0.mk hy289
          clear hy289
          have H' := Aside0.mk H
          clear H
          obtain ⟨HGz43, hgz43⟩ := HI0.out
          have hcz43_0 := cellS116_0 HGz43
          have hcz43_1 := cellS116_1 HGz43
          have hcz43_2 := cellS116_2 HGz43
          have hfz43_0 := blk_frozen HGz43 0
          have hfz43_1 := blk_frozen HGz43 1
          have hfz43_2 := blk_frozen HGz43 2
          clear HGz43 hgz43
          try go_wp2
          have n0_ := Aside0.mk (Kd.R_drew HO_259001.out)
          have n1_ := Aside0.mk (Kd.R_drew HO_259002.out)
          have n2_ := Aside0.mk (Kd.R_drew HO_259003.out)
          have n3_ := Aside0.mk (blk_drew BK253.out)
          have n4_ := Aside0.mk (blk_drew BK258.out)
          have n5_ := Aside0.mk (IsS116.drew HI0.out)
          have n6_ := Aside0.mk (keep_drew HK.out)
          have n7_ := Aside0.mk (below_drew1 HB.out)
          clear HO_259001
          clear HO_259002
          clear HO_259003
          clear BK253
          clear BK258
          clear HI0
          clear HK
          clear HB
          have HO_259001 := n0_
          have HO_259002 := n1_
          have HO_259003 := n2_
          have BK253 := n3_
          have BK258 := n4_
          have HI0 := n5_
          have HK := n6_
          have HB := n7_
          clear n0_ n1_ n2_ n3_ n4_ n5_ n6_ n7_
          refine start_ (n := 8) (S := fun w' => w'.cell? ⟨gb258, 0, none⟩ = some (.int .i64 t254) ∧ w'.cell? ⟨gb258, 1, none⟩ = some (u259001) ∧ w'.cell? ⟨gb258, 2, none⟩ = some (u259002) ∧ w'.cell? ⟨gb258, 3, none⟩ = some (u259003)) (ds := [7]) #[false, false, false, false, false, false, false, false] (by kernel_rfl) rfl rfl ⟨(blk_cell BK258.out 0).trans rfl, (blk_cell BK258.out 1).trans rfl, (blk_cell BK258.out 2).trans rfl, (blk_cell BK258.out 3).trans rfl⟩ (fun hHeld => ?_); refine with_tabW dioramaref24_getNode.tab16 dioramaref24_getNode.bits16 (fun HT_ HW_ => ?_)
          generalize wr.drew = w44 at HO_259001 HO_259002 HO_259003 BK253 BK258 HI0 HK HB hHeld ⊢
          refine pure_ (i := 0) (N := some 67) (v := ?_) (a' := ?_) #[true, false, false, false, false, false, false, false] rfl rfl (any_of HT_.out (by kernel_rfl)) (fun _ _ _ h => h) (Or.inl ⟨by rfl, ?_⟩) ?_ ?_
          rotate_left
          ·intro w'
           go_simp
           with_reducible rfl
          rotate_left
          ·simp only [Act.put, zq1, zq2, zq3, i64_w]
           rfl
          refine pure_ (i := 2) (N := some 69) (v := ?_) (a' := ?_) #[true, false, true, false, false, false, false, false] rfl rfl (any_of HT_.out (by kernel_rfl)) (fun _ _ _ h => h) (Or.inl ⟨by rfl, ?_⟩) ?_ ?_
          rotate_left
          ·intro w'
           go_simp
           with_reducible rfl
          rotate_left
          ·simp only [Act.put, zq1, zq2, zq3, i64_w]
           rfl
          refine take_ (i := 1) (N := some 68) (v := ?_) (a' := ?_) #[true, true, true, false, false, false, false, false] rfl rfl (take_ofW HT_.out HW_.out (by kernel_rfl)) (fun _ _ _ h => h) (Or.inl ⟨by rfl, ?_⟩) hHeld ?_ ?_
          rotate_left
          ·rintro w' ⟨s0, s1, s2, s3⟩
           go_simp
           with_reducible rfl
          rotate_left
          ·simp only [Act.put, zq1, zq2, zq3, i64_w]
           rfl
          refine one_ (i := 3) (N := some 70) #[true, true, true, true, false, false, false, false] rfl rfl (one_of HT_.out (by kernel_rfl)) (by decide) (fun K hK => ?_)
          refine goes_ Try.func67 (by kernel_rfl) rfl #[.pointer (some ⟨g, 0, none⟩), .int .u64 16777216] (by rfl) rfl rfl zm ?_
          with_reducible refine (dioramaref02_Cursor_Uint.calls k3 g x1000_3 x1001_3 x1002_3 16777216 t285 t286 t287 t288 w0 _ ?side1 ?side2 A41.out).mono ?_
          (case side1 => exact zi6)
          (case side2 => exact zb)
          rintro e w45 ⟨rfl, hi, hb, hk⟩
          refine ⟨_, rfl, ?_⟩
          have n0_ := Aside0.mk (Kd.R_mono (Kd.R_keep (IsS116.apart (show IsS116 w0 _ g x1000_3 x1001_3 x1002_3 from zi6) (by (with_reducible repeat (first | apply Kd.R_alloc | apply Kd.R_drewN | apply Kd.R_drew)); exact HO_259001.out) (by decide)) hk (fun _ h => h.2)) (fun _ h => h.1))
          have n1_ := Aside0.mk (Kd.R_mono (Kd.R_keep (IsS116.apart (show IsS116 w0 _ g x1000_3 x1001_3 x1002_3 from zi6) (by (with_reducible repeat (first | apply Kd.R_alloc | apply Kd.R_drewN | apply Kd.R_drew)); exact HO_259002.out) (by decide)) hk (fun _ h => h.2)) (fun _ h => h.1))
          have n2_ := Aside0.mk (Kd.R_mono (Kd.R_keep (IsS116.apart (show IsS116 w0 _ g x1000_3 x1001_3 x1002_3 from zi6) (by (with_reducible repeat (first | apply Kd.R_alloc | apply Kd.R_drewN | apply Kd.R_drew)); exact HO_259003.out) (by decide)) hk (fun _ h => h.2)) (fun _ h => h.1))
          have n3_ := Aside0.mk (KeepBut.blk hk (g' := gb253) (o := .cells #[.int .i64 0, .slice none 0 0, .slice none 0 0, .slice none 0 0] 105 (0, 0)) (by (with_reducible repeat (first | refine blk_drewN ?_ _ | refine blk_drew ?_ | refine blk_alloc ?_ _)); exact BK253.out) NB253_0.out (by simp))
          have n4_ := Aside0.mk (KeepBut.blk hk (g' := gb258) (o := .cells #[.int .i64 t254, u259001, u259002, u259003] 105 (0, 0)) (by (with_reducible repeat (first | refine blk_drewN ?_ _ | refine blk_drew ?_ | refine blk_alloc ?_ _)); exact BK258.out) NB258_0.out (by simp))
          have n5_ := Aside0.mk (KeepBut.trans zk hk (.inl rfl))
          have n6_ := Aside0.mk (hb)
          have n7_ := Aside0.mk (hi)
          clear HO_259001
          clear HO_259002
          clear HO_259003
          clear BK253
          clear BK258
          clear HK
          clear HB
          clear HI0
          have HO_259001 := n0_
          have HO_259002 := n1_
          have HO_259003 := n2_
          have BK253 := n3_
          have BK258 := n4_
          have HK := n5_
          have HB := n6_
          have HI0 := n7_
          clear n0_ n1_ n2_ n3_ n4_ n5_ n6_ n7_
          (try clear hb)
          (try clear hb2)
          (try clear hk)
          (try clear hi)
          refine hK.out _ _ ⟨(blk_cell BK258.out 0).trans rfl, (blk_cell BK258.out 1).trans rfl, (blk_cell BK258.out 2).trans rfl, (blk_cell BK258.out 3).trans rfl⟩ (fun hHeld => ?_)
          clear hK K
          refine norm_ (a' := ?_) ?_ ?_
          rotate_left
          ·show Act.put _ (some 70) _ = _
           simp only [Act.put, zq1, zq2, zq3, i64_w]
           rfl
          refine one_ (i := 4) (N := some 71) #[true, true, true, true, true, false, false, false] rfl rfl (one_of HT_.out (by kernel_rfl)) (by decide) (fun K hK => ?_)
          refine value_ (w1 := ?_) (v := ?_) (by rfl) rfl ?_ ?_
          rotate_left 2
          ·go_simp
           constructor
           ·rfl
           ·rfl
          refine hK.out _ _ ⟨(blk_cell (blk_alloc BK258.out _) 0).trans rfl, (blk_cell (blk_alloc BK258.out _) 1).trans rfl, (blk_cell (blk_alloc BK258.out _) 2).trans rfl, (blk_cell (blk_alloc BK258.out _) 3).trans rfl⟩ (fun hHeld => ?_)
          clear hK K
          refine norm_ (a' := ?_) ?_ ?_
          rotate_left
          ·show Act.put _ (some 71) _ = _
           simp only [Act.put, zq1, zq2, zq3, i64_w]
           rfl
          refine one_ (i := 5) (N := some 72) #[true, true, true, true, true, true, false, false] rfl rfl (one_of HT_.out (by kernel_rfl)) (by decide) (fun K hK => ?_)
          refine Kd.R_append_step (Kd.int .i64) w.heap.size (by rfl) (.tmp 68) (.tmp 71) 103 3 (.int .i64 0) 8 rfl Try.underlying103 info3 rfl (by decide) (by omega) u259003 x259003_3 t285 [.int .i64 t285] (fun _ => True) (fun _ => False) rfl rfl ?aP (fun _ hk => hk.elim) ?aF ?aO (Below.refl _ _) ?aS ?aL ?_
          (case aP => exact rfl)
          (case aF => exact (fun _ _ => trivial))
          (case aO => exact (by (with_reducible repeat (first | apply Kd.R_alloc | apply Kd.R_drewN | apply Kd.R_drew)); exact HO_259003.out))
          (case aS => exact (keep_size (w := w) (g := g) (row := none) zk))
          (case aL => have := LMc42.out; omega)
          intro v290 w46 ho hb hg hat
          rw [← Ny289.out] at ho
          have n0_ := Aside0.mk (Kd.R_over' (by (with_reducible repeat (first | apply Kd.R_alloc | apply Kd.R_drewN | apply Kd.R_drew)); exact HO_259001.out) (Kd.R_typed (by (with_reducible repeat (first | apply Kd.R_alloc | apply Kd.R_drewN | apply Kd.R_drew)); exact HO_259003.out)) (by decide) hg)
          have n1_ := Aside0.mk (Kd.R_over' (by (with_reducible repeat (first | apply Kd.R_alloc | apply Kd.R_drewN | apply Kd.R_drew)); exact HO_259002.out) (Kd.R_typed (by (with_reducible repeat (first | apply Kd.R_alloc | apply Kd.R_drewN | apply Kd.R_drew)); exact HO_259003.out)) (by decide) hg)
          have n2_ := Aside0.mk (blk_grown (g := gb253) (o := .cells #[.int .i64 0, .slice none 0 0, .slice none 0 0, .slice none 0 0] 105 (0, 0)) (by (with_reducible repeat (first | refine blk_drewN ?_ _ | refine blk_drew ?_ | refine blk_alloc ?_ _)); exact BK253.out) hg (Kd.R_ne HO_259003.out BK253.out (by decide)))
          have n3_ := Aside0.mk (blk_grown (g := gb258) (o := .cells #[.int .i64 t254, u259001, u259002, u259003] 105 (0, 0)) (by (with_reducible repeat (first | refine blk_drewN ?_ _ | refine blk_drew ?_ | refine blk_alloc ?_ _)); exact BK258.out) hg (Kd.R_ne HO_259003.out BK258.out (by decide)))
          have n4_ := Aside0.mk (IsS116.grown zi6 hg (IsS116.own_ne HI0.out HO_259003.out (by decide)))
          have n5_ := Aside0.mk (below_weaken zb HL.out hb)
          have n6_ := Aside0.mk (KeepBut.trans zk (KeepBut.of_grown hg g) (Kd.R_base2 HO_259003.out))
          have n7_ := Aside0.mk (ho)
          clear HO_259001
          clear HO_259002
          clear BK253
          clear BK258
          clear HI0
          clear HB
          clear HK
          clear HO_259003
          have HO_259001 := n0_
          have HO_259002 := n1_
          have BK253 := n2_
          have BK258 := n3_
          have HI0 := n4_
          have HB := n5_
          have HK := n6_
          have HO291 := n7_
          clear n0_ n1_ n2_ n3_ n4_ n5_ n6_ n7_
          clear ho hb hg hat
          obtain ⟨Ao47, co47, eo47⟩ := Kd.R_slice HO291.out
          (first | subst eo47 | (injection eo47 with f1_ f2_ f3_; have f4_ := f1_.symm; have f5_ := f3_.symm; clear f1_ f2_ f3_; subst f4_; subst f5_))
          refine hK.out _ _ ⟨(blk_cell BK258.out 0).trans rfl, (blk_cell BK258.out 1).trans rfl, (blk_cell BK258.out 2).trans rfl, (blk_cell BK258.out 3).trans rfl⟩ (fun hHeld => ?_)
          clear hK K
          refine norm_ (a' := ?_) ?_ ?_
          rotate_left
          ·show Act.put _ (some 72) _ = _
           simp only [Act.put, zq1, zq2, zq3, i64_w]
           rfl
          refine pure_ (i := 6) (N := some 73) (v := ?_) (a' := ?_) #[true, true, true, true, true, true, true, false] rfl rfl (any_of HT_.out (by kernel_rfl)) (fun _ _ _ h => h) (Or.inl ⟨by rfl, ?_⟩) ?_ ?_
          rotate_left
          ·intro w'
           go_simp
           with_reducible rfl
          rotate_left
          ·simp only [Act.put, zq1, zq2, zq3, i64_w]
           rfl
          refine last_ (i := 7) (N := none) #[true, true, true, true, true, true, true, true] rfl rfl (one_of HT_.out (by kernel_rfl)) (by decide) (fun K hK => ?_)
          have hs48 : w46.cell? ⟨gb258, 3, none⟩ = some (u259003) := (blk_cell BK258.out 3).trans rfl
          have hfs48 := blk_frozen BK258.out 3
          have hns48_0 := NB253_258.out
          have hms48_0 := NB258_253.out
          refine skip_ (w1 := ?_) (by rfl) rfl ?_ ?_
          rotate_left
          ·go_simp
           rfl
          refine hK.out _ _ ?_
          clear hK K
          refine done_ (done_of HT_.out (by kernel_rfl)) ?_
          try go_wp2
          go_roundg k3
          case measure => have := HJ3.out; have := HJ23.out; have := HK3.out; omega
          case rel => exact ⟨(wrap64 (x7_3 + 1)), (t286), (t287), (t288), (y289), (.slice Ao47 y289.length co47), zr, H', ⟨by have := HJ3.out; have := HJ23.out; have := HK3.out; omega⟩, ⟨by (with_reducible repeat (first | apply Kd.R_alloc | apply Kd.R_drewN | apply Kd.R_drew)); exact Kd.R_mono (Kd.R_far (p := ⟨gb258, 3, none⟩) (Kd.R_types HO_259001.out BK258.out (by decide)) (fun _ hk => hk.2) (.slice Ao47 y289.length co47)) (fun _ hk => trivial)⟩, ⟨by (with_reducible repeat (first | apply Kd.R_alloc | apply Kd.R_drewN | apply Kd.R_drew)); exact Kd.R_mono (Kd.R_far (p := ⟨gb258, 3, none⟩) (Kd.R_types HO_259002.out BK258.out (by decide)) (fun _ hk => hk.2) (.slice Ao47 y289.length co47)) (fun _ hk => trivial)⟩, ⟨by (with_reducible repeat (first | apply Kd.R_alloc | apply Kd.R_drewN | apply Kd.R_drew)); exact Kd.R_mono (Kd.R_far (p := ⟨gb258, 3, none⟩) (Kd.R_types HO291.out BK258.out (by decide)) (fun _ hk => hk.2) (.slice Ao47 y289.length co47)) (fun _ hk => trivial)⟩, ⟨by (with_reducible repeat (first | refine blk_drewN ?_ _ | refine blk_drew ?_ | refine blk_alloc ?_ _)); refine blk_far ?_ NB253_258.out _; (with_reducible repeat (first | refine blk_drewN ?_ _ | refine blk_drew ?_ | refine blk_alloc ?_ _)); exact BK253.out⟩, ⟨by (with_reducible repeat (first | refine blk_drewN ?_ _ | refine blk_drew ?_ | refine blk_alloc ?_ _)); refine blk_put (cs := #[.int .i64 t254, u259001, u259002, u259003]) ?_ 3 _ rfl; (with_reducible repeat (first | refine blk_drewN ?_ _ | refine blk_drew ?_ | refine blk_alloc ?_ _)); exact BK258.out⟩, ⟨zi6⟩, ⟨zk⟩, ⟨zb⟩⟩
         ·rw [if_neg c42] at H
          exact absurd H (by simp)
        ·rw [if_neg c40] at H
         have c40b0 : (x1002_3 == 0) = false := beq_eq_false_iff_ne.mpr c40
         have c40b1 : (x1002_3 != 0) = true := bne_iff_ne.mpr c40
         simp only [Option.some.injEq, Prod.mk.injEq] at H
         obtain ⟨rfl, rfl, rfl, rfl, rfl, rfl, rfl⟩ := H
         obtain ⟨HGz49, hgz49⟩ := HI0.out
         have hcz49_0 := cellS116_0 HGz49
         have hcz49_1 := cellS116_1 HGz49
         have hcz49_2 := cellS116_2 HGz49
         have hfz49_0 := blk_frozen HGz49 0
         have hfz49_1 := blk_frozen HGz49 1
         have hfz49_2 := blk_frozen HGz49 2
         clear HGz49 hgz49
         have hnb50 := NB258_253.out
         have hnc50 := NB253_258.out
         have hnb51 := NB258_0.out
         have hnc51 := NB0_258.out
         have hcz52_0 : wr.cell? ⟨gb258, 0, none⟩ = some (.int .i64 t254) := (blk_cell BK258.out 0).trans rfl
         have hcz52_1 : wr.cell? ⟨gb258, 1, none⟩ = some (u259001) := (blk_cell BK258.out 1).trans rfl
         have hcz52_2 : wr.cell? ⟨gb258, 2, none⟩ = some (u259002) := (blk_cell BK258.out 2).trans rfl
         have hcz52_3 : wr.cell? ⟨gb258, 3, none⟩ = some (u259003) := (blk_cell BK258.out 3).trans rfl
         have hfz52_0 := blk_frozen BK258.out 0
         have hfz52_1 := blk_frozen BK258.out 1
         have hfz52_2 := blk_frozen BK258.out 2
         have hfz52_3 := blk_frozen BK258.out 3
         have hnb53 := NB253_0.out
         have hnc53 := NB0_253.out
         have hcz54_0 : wr.cell? ⟨gb253, 0, none⟩ = some (.int .i64 0) := (blk_cell BK253.out 0).trans rfl
         have hcz54_1 : wr.cell? ⟨gb253, 1, none⟩ = some (.slice none 0 0) := (blk_cell BK253.out 1).trans rfl
         have hcz54_2 : wr.cell? ⟨gb253, 2, none⟩ = some (.slice none 0 0) := (blk_cell BK253.out 2).trans rfl
         have hcz54_3 : wr.cell? ⟨gb253, 3, none⟩ = some (.slice none 0 0) := (blk_cell BK253.out 3).trans rfl
         have hfz54_0 := blk_frozen BK253.out 0
         have hfz54_1 := blk_frozen BK253.out 1
         have hfz54_2 := blk_frozen BK253.out 2
         have hfz54_3 := blk_frozen BK253.out 3
         obtain ⟨Ao55, co55, eo55⟩ := Kd.R_slice HO_259001.out
         subst eo55
         obtain ⟨Ao56, co56, eo56⟩ := Kd.R_slice HO_259002.out
         subst eo56
         obtain ⟨Ao57, co57, eo57⟩ := Kd.R_slice HO_259003.out
         subst eo57
         go_wp2
         refine bodyPost_ret (results_cell_row rfl _ _ gb253 105 #[.int .i64 t254, .slice Ao55 x259001_3.length co55, .slice Ao56 x259002_23.length co56, .slice Ao57 x259003_3.length co57] (0, 0) _ rfl (by (with_reducible repeat (first | refine blk_drewN ?_ _ | refine blk_drew ?_ | refine blk_alloc ?_ _)); refine blk_put (cs := #[.int .i64 t254, .slice Ao55 x259001_3.length co55, .slice Ao56 x259002_23.length co56, .slice none 0 0]) ?_ 3 _ rfl; (with_reducible repeat (first | refine blk_drewN ?_ _ | refine blk_drew ?_ | refine blk_alloc ?_ _)); refine blk_put (cs := #[.int .i64 t254, .slice Ao55 x259001_3.length co55, .slice none 0 0, .slice none 0 0]) ?_ 2 _ rfl; (with_reducible repeat (first | refine blk_drewN ?_ _ | refine blk_drew ?_ | refine blk_alloc ?_ _)); refine blk_put (cs := #[.int .i64 t254, .slice none 0 0, .slice none 0 0, .slice none 0 0]) ?_ 1 _ rfl; (with_reducible repeat (first | refine blk_drewN ?_ _ | refine blk_drew ?_ | refine blk_alloc ?_ _)); refine blk_put (cs := #[.int .i64 0, .slice none 0 0, .slice none 0 0, .slice none 0 0]) ?_ 0 _ rfl; (with_reducible repeat (first | refine blk_drewN ?_ _ | refine blk_drew ?_ | refine blk_alloc ?_ _)); exact BK253.out) Try.underlying105 rfl (by kernel_rfl)) rfl ?_
         exact ⟨_, _, _, by first | rfl | (simp [errW_none, errW_some] <;> rfl) | (simp [*, errW_none, errW_some] <;> rfl), by (with_reducible repeat (first | apply Kd.R_alloc | apply Kd.R_drewN | apply Kd.R_drew)); exact Kd.R_mono (Kd.R_far (p := ⟨gb253, 3, none⟩) (Kd.R_far (p := ⟨gb253, 2, none⟩) (Kd.R_far (p := ⟨gb253, 1, none⟩) (Kd.R_far (p := ⟨gb253, 0, none⟩) (Kd.R_types HO_259001.out BK253.out (by decide)) (fun _ hk => hk.2) (.int .i64 t254)) (fun _ hk => hk.2) (.slice Ao55 x259001_3.length co55)) (fun _ hk => hk.2) (.slice Ao56 x259002_23.length co56)) (fun _ hk => hk.2) (.slice Ao57 x259003_3.length co57)) (fun _ hk => trivial), by (with_reducible repeat (first | apply Kd.R_alloc | apply Kd.R_drewN | apply Kd.R_drew)); exact Kd.R_mono (Kd.R_far (p := ⟨gb253, 3, none⟩) (Kd.R_far (p := ⟨gb253, 2, none⟩) (Kd.R_far (p := ⟨gb253, 1, none⟩) (Kd.R_far (p := ⟨gb253, 0, none⟩) (Kd.R_types HO_259002.out BK253.out (by decide)) (fun _ hk => hk.2) (.int .i64 t254)) (fun _ hk => hk.2) (.slice Ao55 x259001_3.length co55)) (fun _ hk => hk.2) (.slice Ao56 x259002_23.length co56)) (fun _ hk => hk.2) (.slice Ao57 x259003_3.length co57)) (fun _ hk => trivial), by (with_reducible repeat (first | apply Kd.R_alloc | apply Kd.R_drewN | apply Kd.R_drew)); exact Kd.R_mono (Kd.R_far (p := ⟨gb253, 3, none⟩) (Kd.R_far (p := ⟨gb253, 2, none⟩) (Kd.R_far (p := ⟨gb253, 1, none⟩) (Kd.R_far (p := ⟨gb253, 0, none⟩) (Kd.R_types HO_259003.out BK253.out (by decide)) (fun _ hk => hk.2) (.int .i64 t254)) (fun _ hk => hk.2) (.slice Ao55 x259001_3.length co55)) (fun _ hk => hk.2) (.slice Ao56 x259002_23.length co56)) (fun _ hk => hk.2) (.slice Ao57 x259003_3.length co57)) (fun _ hk => trivial), zi6, zb, zk⟩
       ·rw [if_neg c39] at H
        have c39b0 : decide (x7_3 < t281) = false := decide_eq_false c39
        clear c39
        simp only [Option.some.injEq, Prod.mk.injEq] at H
        obtain ⟨rfl, rfl, rfl, rfl, rfl, rfl, rfl⟩ := H
        have hnb58 := NB258_253.out
        have hnc58 := NB253_258.out
        have hnb59 := NB258_0.out
        have hnc59 := NB0_258.out
        have hcz60_0 : wr.cell? ⟨gb258, 0, none⟩ = some (.int .i64 t254) := (blk_cell BK258.out 0).trans rfl
        have hcz60_1 : wr.cell? ⟨gb258, 1, none⟩ = some (u259001) := (blk_cell BK258.out 1).trans rfl
        have hcz60_2 : wr.cell? ⟨gb258, 2, none⟩ = some (u259002) := (blk_cell BK258.out 2).trans rfl
        have hcz60_3 : wr.cell? ⟨gb258, 3, none⟩ = some (u259003) := (blk_cell BK258.out 3).trans rfl
        have hfz60_0 := blk_frozen BK258.out 0
        have hfz60_1 := blk_frozen BK258.out 1
        have hfz60_2 := blk_frozen BK258.out 2
        have hfz60_3 := blk_frozen BK258.out 3
        have hnb61 := NB253_0.out
        have hnc61 := NB0_253.out
        have hcz62_0 : wr.cell? ⟨gb253, 0, none⟩ = some (.int .i64 0) := (blk_cell BK253.out 0).trans rfl
        have hcz62_1 : wr.cell? ⟨gb253, 1, none⟩ = some (.slice none 0 0) := (blk_cell BK253.out 1).trans rfl
        have hcz62_2 : wr.cell? ⟨gb253, 2, none⟩ = some (.slice none 0 0) := (blk_cell BK253.out 2).trans rfl
        have hcz62_3 : wr.cell? ⟨gb253, 3, none⟩ = some (.slice none 0 0) := (blk_cell BK253.out 3).trans rfl
        have hfz62_0 := blk_frozen BK253.out 0
        have hfz62_1 := blk_frozen BK253.out 1
        have hfz62_2 := blk_frozen BK253.out 2
        have hfz62_3 := blk_frozen BK253.out 3
        obtain ⟨Ao63, co63, eo63⟩ := Kd.R_slice HO_259001.out
        subst eo63
        obtain ⟨Ao64, co64, eo64⟩ := Kd.R_slice HO_259002.out
        subst eo64
        obtain ⟨Ao65, co65, eo65⟩ := Kd.R_slice HO_259003.out
        subst eo65
        go_wp2
        refine bodyPost_ret (results_cell_row rfl _ _ gb253 105 #[.int .i64 t254, .slice Ao63 x259001_3.length co63, .slice Ao64 x259002_23.length co64, .slice Ao65 x259003_3.length co65] (0, 0) _ rfl (by (with_reducible repeat (first | refine blk_drewN ?_ _ | refine blk_drew ?_ | refine blk_alloc ?_ _)); refine blk_put (cs := #[.int .i64 t254, .slice Ao63 x259001_3.length co63, .slice Ao64 x259002_23.length co64, .slice none 0 0]) ?_ 3 _ rfl; (with_reducible repeat (first | refine blk_drewN ?_ _ | refine blk_drew ?_ | refine blk_alloc ?_ _)); refine blk_put (cs := #[.int .i64 t254, .slice Ao63 x259001_3.length co63, .slice none 0 0, .slice none 0 0]) ?_ 2 _ rfl; (with_reducible repeat (first | refine blk_drewN ?_ _ | refine blk_drew ?_ | refine blk_alloc ?_ _)); refine blk_put (cs := #[.int .i64 t254, .slice none 0 0, .slice none 0 0, .slice none 0 0]) ?_ 1 _ rfl; (with_reducible repeat (first | refine blk_drewN ?_ _ | refine blk_drew ?_ | refine blk_alloc ?_ _)); refine blk_put (cs := #[.int .i64 0, .slice none 0 0, .slice none 0 0, .slice none 0 0]) ?_ 0 _ rfl; (with_reducible repeat (first | refine blk_drewN ?_ _ | refine blk_drew ?_ | refine blk_alloc ?_ _)); exact BK253.out) Try.underlying105 rfl (by kernel_rfl)) rfl ?_
        exact ⟨_, _, _, by first | rfl | (simp [errW_none, errW_some] <;> rfl) | (simp [*, errW_none, errW_some] <;> rfl), by (with_reducible repeat (first | apply Kd.R_alloc | apply Kd.R_drewN | apply Kd.R_drew)); exact Kd.R_mono (Kd.R_far (p := ⟨gb253, 3, none⟩) (Kd.R_far (p := ⟨gb253, 2, none⟩) (Kd.R_far (p := ⟨gb253, 1, none⟩) (Kd.R_far (p := ⟨gb253, 0, none⟩) (Kd.R_types HO_259001.out BK253.out (by decide)) (fun _ hk => hk.2) (.int .i64 t254)) (fun _ hk => hk.2) (.slice Ao63 x259001_3.length co63)) (fun _ hk => hk.2) (.slice Ao64 x259002_23.length co64)) (fun _ hk => hk.2) (.slice Ao65 x259003_3.length co65)) (fun _ hk => trivial), by (with_reducible repeat (first | apply Kd.R_alloc | apply Kd.R_drewN | apply Kd.R_drew)); exact Kd.R_mono (Kd.R_far (p := ⟨gb253, 3, none⟩) (Kd.R_far (p := ⟨gb253, 2, none⟩) (Kd.R_far (p := ⟨gb253, 1, none⟩) (Kd.R_far (p := ⟨gb253, 0, none⟩) (Kd.R_types HO_259002.out BK253.out (by decide)) (fun _ hk => hk.2) (.int .i64 t254)) (fun _ hk => hk.2) (.slice Ao63 x259001_3.length co63)) (fun _ hk => hk.2) (.slice Ao64 x259002_23.length co64)) (fun _ hk => hk.2) (.slice Ao65 x259003_3.length co65)) (fun _ hk => trivial), by (with_reducible repeat (first | apply Kd.R_alloc | apply Kd.R_drewN | apply Kd.R_drew)); exact Kd.R_mono (Kd.R_far (p := ⟨gb253, 3, none⟩) (Kd.R_far (p := ⟨gb253, 2, none⟩) (Kd.R_far (p := ⟨gb253, 1, none⟩) (Kd.R_far (p := ⟨gb253, 0, none⟩) (Kd.R_types HO_259003.out BK253.out (by decide)) (fun _ hk => hk.2) (.int .i64 t254)) (fun _ hk => hk.2) (.slice Ao63 x259001_3.length co63)) (fun _ hk => hk.2) (.slice Ao64 x259002_23.length co64)) (fun _ hk => hk.2) (.slice Ao65 x259003_3.length co65)) (fun _ hk => trivial), zi6, zb, zk⟩
end Go.Proofs.Ytdjpelcdijpihaa.PrintF
