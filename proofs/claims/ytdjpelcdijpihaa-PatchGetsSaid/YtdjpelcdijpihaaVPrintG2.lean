/- A part of the proof of the claim: what it uses of the text PrintG2 (printed by xprint.py). -/
import Derived.Test.YtdjpelcdijpihaaVZ
import Derived.Test.YtdjpelcdijpihaaShort
import Derived.Test.YtdjpelcdijpihaaVPrintF0
import Derived.Test.YtdjpelcdijpihaaVPrintG1
namespace Go.Proofs.Ytdjpelcdijpihaa.PrintF
open Go.Proofs.Ytdjpelcdijpihaa.Print
open Go.RowKit Go.Proofs.YtdjpelcdijpihaaW.PrintWords Go.Proofs.YtdjpelcdijpihaaW.PrintLast Go.Proofs.YtdjpelcdijpihaaW.PrintMore
attribute [local go_sem] max2_int min2_int max_two min_two
set_option linter.unusedVariables false
set_option linter.unusedSimpArgs false
def dioramaref02_Cursor_Uint.j0 : Nat → Int → Int → Int → Bool → ByteArray → Int → Int → Option (Int × ByteArray × Int × Int)
 | 0, _, _, _, _, _, _, _ => none
 | k + 1, x5, x6, x7, x36, x1000, x1001, x1002 => if x36 = true then (if 19 = 0 then (some (wrap64 (x5), x1000, x6, x1002)) else (some (0, x1000, x1001, 19))) else (if x7 = 0 then (some (wrap64 (x5), x1000, x6, x1002)) else (some (0, x1000, x1001, x7)))
def dioramaref02_Cursor_Uint.f (k : Nat) (s0_0 : ByteArray) (s0_1 : Int) (s0_2 : Int) (a1 : Int) : Option (Int × ByteArray × Int × Int) := if s0_2 = 0 then ((dioramaref01_Get.f k s0_0 s0_1).bind fun bt185 => (if bt185.2.2 = 0 then (if bt185.1 > a1 then (dioramaref02_Cursor_Uint.j0 k bt185.1 bt185.2.1 bt185.2.2 true s0_0 s0_1 s0_2) else (dioramaref02_Cursor_Uint.j0 k bt185.1 bt185.2.1 bt185.2.2 (decide (bt185.1 > 16777216)) s0_0 s0_1 s0_2)) else (dioramaref02_Cursor_Uint.j0 k bt185.1 bt185.2.1 bt185.2.2 false s0_0 s0_1 s0_2))) else (some (0, s0_0, s0_1, s0_2))
set_option maxHeartbeats 8000000 in
set_option maxRecDepth 100000 in
theorem dioramaref02_Cursor_Uint.calls (k : Nat) (g : Nat) (s0_0 : ByteArray) (s0_1 : Int) (s0_2 : Int) (a1 : Int) (r1 : Int) (r2 : ByteArray) (r3 : Int) (r4 : Int) (w0 w : World) (hI : IsS116 w0 w g s0_0 s0_1 s0_2) (hB : Below w0.heap.size w0 w) (h : dioramaref02_Cursor_Uint.f k s0_0 s0_1 s0_2 a1 = some (r1, r2, r3, r4)) :
  Calls Try.prog 67 #[.pointer (some ⟨g, 0, none⟩), .int .u64 a1] w fun e w' => e = .returned (.int .i64 r1) ∧ IsS116 w0 w' g r2 r3 r4 ∧ Below w0.heap.size w0 w' ∧ KeepBut w w' g none := by
 have HI0 := Aside0.mk hI
 have HK := Aside0.mk (KeepBut.refl w g none)
 have HL := Aside0.mk hB.size
 clear hI
 have HW0 := Aside0.mk hB.size
 have HB := Aside0.mk hB
 clear hB
 have H : (if s0_2 = 0 then ((dioramaref01_Get.f k s0_0 s0_1).bind fun bt185 => (if bt185.2.2 = 0 then (if bt185.1 > a1 then (dioramaref02_Cursor_Uint.j0 k bt185.1 bt185.2.1 bt185.2.2 true s0_0 s0_1 s0_2) else (dioramaref02_Cursor_Uint.j0 k bt185.1 bt185.2.1 bt185.2.2 (decide (bt185.1 > 16777216)) s0_0 s0_1 s0_2)) else (dioramaref02_Cursor_Uint.j0 k bt185.1 bt185.2.1 bt185.2.2 false s0_0 s0_1 s0_2))) else (some (0, s0_0, s0_1, s0_2))) = some (r1, r2, r3, r4) := h
 clear h
 by_cases c3 : s0_2 = 0
 ·rw [if_pos c3] at H
  have c3b0 : (s0_2 == 0) = true := beq_iff_eq.mpr c3
  have c3b1 : (s0_2 != 0) = false := bne_eq_false_iff_eq.mpr c3
  clear c3
  replace H := Option.bind_eq_some_iff.mp H
  obtain ⟨⟨t185, t186, t187⟩, A40, H⟩ := H
  replace H : (if t187 = 0 then (if t185 > a1 then (dioramaref02_Cursor_Uint.j0 k t185 t186 t187 true s0_0 s0_1 s0_2) else (dioramaref02_Cursor_Uint.j0 k t185 t186 t187 (decide (t185 > 16777216)) s0_0 s0_1 s0_2)) else (dioramaref02_Cursor_Uint.j0 k t185 t186 t187 false s0_0 s0_1 s0_2)) = some (r1, r2, r3, r4) := H
  have A4 := Aside0.mk A40
  clear A40
  have HC5 := Aside0.mk H
  clear H
  obtain ⟨HGz6, hgz6⟩ := HI0.out
  have hcz6_0 := cellS116_0 HGz6
  have hcz6_1 := cellS116_1 HGz6
  have hcz6_2 := cellS116_2 HGz6
  have hfz6_0 := blk_frozen HGz6 0
  have hfz6_1 := blk_frozen HGz6 1
  have hfz6_2 := blk_frozen HGz6 2
  clear HGz6 hgz6
  go_enter Try.func67, Try.ntmps67
  go_upto_region 4 with (first | (go_at_call 56; (with_reducible refine (dioramaref01_Get.calls k s0_0 s0_1 t185 t186 t187 _ A4.out).mono ?_); rintro e w' ⟨rfl, ⟨nd, rfl⟩⟩; (try first | exact ⟨rfl, _, World.drewN_drewN _ _ _⟩ | exact ⟨rfl, _, Eq.trans (World.drewN_drewN _ _ _) (congrArg (World.drewN _) (Nat.add_assoc _ _ _))⟩)))
  repeat (go_quiet (first | (go_at_call 56; (with_reducible refine (dioramaref01_Get.calls k s0_0 s0_1 t185 t186 t187 _ A4.out).mono ?_); rintro e w' ⟨rfl, ⟨nd, rfl⟩⟩; (try first | exact ⟨rfl, _, World.drewN_drewN _ _ _⟩ | exact ⟨rfl, _, Eq.trans (World.drewN_drewN _ _ _) (congrArg (World.drewN _) (Nat.add_assoc _ _ _))⟩))); go_upto_region 4 with (first | (go_at_call 56; (with_reducible refine (dioramaref01_Get.calls k s0_0 s0_1 t185 t186 t187 _ A4.out).mono ?_); rintro e w' ⟨rfl, ⟨nd, rfl⟩⟩; (try first | exact ⟨rfl, _, World.drewN_drewN _ _ _⟩ | exact ⟨rfl, _, Eq.trans (World.drewN_drewN _ _ _) (congrArg (World.drewN _) (Nat.add_assoc _ _ _))⟩))))
  (try simp only [Act.put, zq1, zq2, zq3])
  go_cut [36] (fun v36 wc => ∃ (kq : Nat) (x36_4 : Bool), v36 = .bool x36_4 ∧ Aside0 (dioramaref02_Cursor_Uint.j0 kq t185 t186 t187 x36_4 s0_0 s0_1 s0_2 = some (r1, r2, r3, r4)) ∧ Aside0 (kq ≤ k) ∧ Aside0 (IsS116 w0 wc g s0_0 s0_1 s0_2) ∧ Aside0 (KeepBut w wc g none) ∧ Aside0 (Below w0.heap.size w0 wc))
  case first =>
   have H := HC5.out
   clear HC5
   by_cases c7 : t187 = 0
   ·rw [if_pos c7] at H
    have c7b0 : (t187 == 0) = true := beq_iff_eq.mpr c7
    have c7b1 : (t187 != 0) = false := bne_eq_false_iff_eq.mpr c7
    clear c7
    (first | rw [c7b0] | (simp only [i64_w]; rw [c7b0]) | skip)
    by_cases c8 : t185 > a1
    ·rw [if_pos c8] at H
     have c8b0 : decide (a1 < t185) = true := decide_eq_true c8
     clear c8
     have H' := Aside0.mk H
     clear H
     go_wp2
     repeat (go_quiet (fail); try go_wp2)
     go_meet
     case rel => exact ⟨_, (true), zr, H', ⟨by first | omega | exact Nat.le_refl _⟩, ⟨zi6⟩, ⟨zk⟩, ⟨zb⟩⟩
    ·rw [if_neg c8] at H
     have c8b0 : decide (a1 < t185) = false := decide_eq_false c8
     clear c8
     have H' := Aside0.mk H
     clear H
     go_wp2
     repeat (go_quiet (fail); try go_wp2)
     go_meet
     case rel => exact ⟨_, (decide (t185 > 16777216)), zr, H', ⟨by first | omega | exact Nat.le_refl _⟩, ⟨zi6⟩, ⟨zk⟩, ⟨zb⟩⟩
   ·rw [if_neg c7] at H
    have c7b0 : (t187 == 0) = false := beq_eq_false_iff_ne.mpr c7
    have c7b1 : (t187 != 0) = true := bne_iff_ne.mpr c7
    (first | rw [c7b0] | (simp only [i64_w]; rw [c7b0]) | skip)
    have H' := Aside0.mk H
    clear H
    go_wp2
    repeat (go_quiet (fail); try go_wp2)
    go_meet
    case rel => exact ⟨_, (false), zr, H', ⟨by first | omega | exact Nat.le_refl _⟩, ⟨zi6⟩, ⟨zk⟩, ⟨zb⟩⟩
  case rest =>
   clear HC5
   try clear p2
   try clear c3
   try clear c3b0
   try clear c3b1
   try clear c6
   try clear c7
   try clear c7b0
   try clear c7b1
   try clear c8
   try clear c8b0
   try clear hcz6_0
   try clear hcz6_1
   try clear hcz6_2
   try clear hfz6_0
   try clear hfz6_1
   try clear hfz6_2
   obtain ⟨kq, x36_4, rfl, HA, HJ4, HI0, HK, HB⟩ := hcut
   cases kq with
   | zero => exact absurd HA.out (by simp [dioramaref02_Cursor_Uint.j0])
   | succ kj4 =>
    have H := HA.out
    clear HA
    simp only [dioramaref02_Cursor_Uint.j0] at H
    by_cases c9 : x36_4 = true
    ·subst c9
     have H1 : (if 19 = 0 then (some (wrap64 (t185), s0_0, t186, s0_2)) else (some (0, s0_0, s0_1, 19))) = some (r1, r2, r3, r4) := by rw [if_pos rfl] at H; exact H
     clear H
     have H := H1
     clear H1
     by_cases c10 : 19 = 0
     ·exact absurd c10 (by decide)
     ·rw [if_neg c10] at H
      have c10b0 : (19 == 0) = false := beq_eq_false_iff_ne.mpr c10
      have c10b1 : (19 != 0) = true := bne_iff_ne.mpr c10
      simp only [Option.some.injEq, Prod.mk.injEq] at H
      obtain ⟨rfl, rfl, rfl, rfl⟩ := H
      obtain ⟨HGz12, hgz12⟩ := HI0.out
      have hcz12_0 := cellS116_0 HGz12
      have hcz12_1 := cellS116_1 HGz12
      have hcz12_2 := cellS116_2 HGz12
      have hfz12_0 := blk_frozen HGz12 0
      have hfz12_1 := blk_frozen HGz12 1
      have hfz12_2 := blk_frozen HGz12 2
      clear HGz12 hgz12
      go_wp2
      repeat (go_quiet (fail); try go_wp2)
      go_ret
      exact ⟨ze, zi6, zb, zk⟩
    ·replace c9 := Bool.eq_false_iff.mpr c9
     subst c9
     have H1 : (if t187 = 0 then (some (wrap64 (t185), s0_0, t186, s0_2)) else (some (0, s0_0, s0_1, t187))) = some (r1, r2, r3, r4) := by rw [if_neg (show ¬ (false = true) by decide)] at H; exact H
     clear H
     have H := H1
     clear H1
     by_cases c13 : t187 = 0
     ·rw [if_pos c13] at H
      have c13b0 : (t187 == 0) = true := beq_iff_eq.mpr c13
      have c13b1 : (t187 != 0) = false := bne_eq_false_iff_eq.mpr c13
      clear c13
      simp only [Option.some.injEq, Prod.mk.injEq] at H
      obtain ⟨rfl, rfl, rfl, rfl⟩ := H
      obtain ⟨HGz14, hgz14⟩ := HI0.out
      have hcz14_0 := cellS116_0 HGz14
      have hcz14_1 := cellS116_1 HGz14
      have hcz14_2 := cellS116_2 HGz14
      have hfz14_0 := blk_frozen HGz14 0
      have hfz14_1 := blk_frozen HGz14 1
      have hfz14_2 := blk_frozen HGz14 2
      clear HGz14 hgz14
      go_wp2
      repeat (go_quiet (fail); try go_wp2)
      go_ret
      exact ⟨ze, zi6, zb, zk⟩
     ·rw [if_neg c13] at H
      have c13b0 : (t187 == 0) = false := beq_eq_false_iff_ne.mpr c13
      have c13b1 : (t187 != 0) = true := bne_iff_ne.mpr c13
      simp only [Option.some.injEq, Prod.mk.injEq] at H
      obtain ⟨rfl, rfl, rfl, rfl⟩ := H
      obtain ⟨HGz15, hgz15⟩ := HI0.out
      have hcz15_0 := cellS116_0 HGz15
      have hcz15_1 := cellS116_1 HGz15
      have hcz15_2 := cellS116_2 HGz15
      have hfz15_0 := blk_frozen HGz15 0
      have hfz15_1 := blk_frozen HGz15 1
      have hfz15_2 := blk_frozen HGz15 2
      clear HGz15 hgz15
      go_wp2
      repeat (go_quiet (fail); try go_wp2)
      go_ret
      exact ⟨ze, zi6, zb, zk⟩
 ·rw [if_neg c3] at H
  have c3b0 : (s0_2 == 0) = false := beq_eq_false_iff_ne.mpr c3
  have c3b1 : (s0_2 != 0) = true := bne_iff_ne.mpr c3
  simp only [Option.some.injEq, Prod.mk.injEq] at H
  obtain ⟨rfl, rfl, rfl, rfl⟩ := H
  obtain ⟨HGz16, hgz16⟩ := HI0.out
  have hcz16_0 := cellS116_0 HGz16
  have hcz16_1 := cellS116_1 HGz16
  have hcz16_2 := cellS116_2 HGz16
  have hfz16_0 := blk_frozen HGz16 0
  have hfz16_1 := blk_frozen HGz16 1
  have hfz16_2 := blk_frozen HGz16 2
  clear HGz16 hgz16
  go_enter Try.func67, Try.ntmps67
  go_wp2
  repeat (go_quiet (fail); try go_wp2)
  go_ret
  exact ⟨ze, zi6, zb, zk⟩
def dioramaref02_Cursor_Fail.f (s0_0 : ByteArray) (s0_1 : Int) (s0_2 : Int) (a1 : Int) : Option (ByteArray × Int × Int) := if s0_2 = 0 then (some (s0_0, s0_1, a1)) else (some (s0_0, s0_1, s0_2))
set_option maxHeartbeats 8000000 in
set_option maxRecDepth 100000 in
theorem dioramaref02_Cursor_Fail.calls (g : Nat) (s0_0 : ByteArray) (s0_1 : Int) (s0_2 : Int) (a1 : Int) (r1 : ByteArray) (r2 : Int) (r3 : Int) (w0 w : World) (hI : IsS116 w0 w g s0_0 s0_1 s0_2) (hB : Below w0.heap.size w0 w) (h : dioramaref02_Cursor_Fail.f s0_0 s0_1 s0_2 a1 = some (r1, r2, r3)) :
  Calls Try.prog 95 #[.pointer (some ⟨g, 0, none⟩), .int .i64 a1] w fun e w' => e = .returned (.tuple #[]) ∧ IsS116 w0 w' g r1 r2 r3 ∧ Below w0.heap.size w0 w' ∧ KeepBut w w' g none := by
 have HI0 := Aside0.mk hI
 have HK := Aside0.mk (KeepBut.refl w g none)
 have HL := Aside0.mk hB.size
 clear hI
 have HW0 := Aside0.mk hB.size
 have HB := Aside0.mk hB
 clear hB
 have H : (if s0_2 = 0 then (some (s0_0, s0_1, a1)) else (some (s0_0, s0_1, s0_2))) = some (r1, r2, r3) := h
 clear h
 by_cases c3 : s0_2 = 0
 ·rw [if_pos c3] at H
  have c3b0 : (s0_2 == 0) = true := beq_iff_eq.mpr c3
  have c3b1 : (s0_2 != 0) = false := bne_eq_false_iff_eq.mpr c3
  clear c3
  simp only [Option.some.injEq, Prod.mk.injEq] at H
  obtain ⟨rfl, rfl, rfl⟩ := H
  obtain ⟨HGz4, hgz4⟩ := HI0.out
  have hcz4_0 := cellS116_0 HGz4
  have hcz4_1 := cellS116_1 HGz4
  have hcz4_2 := cellS116_2 HGz4
  have hfz4_0 := blk_frozen HGz4 0
  have hfz4_1 := blk_frozen HGz4 1
  have hfz4_2 := blk_frozen HGz4 2
  clear HGz4 hgz4
  go_enter Try.func95, Try.ntmps95
  go_wp2
  first | go_end0 | ((try simp only [Exit.inBlock, Exit.then]); refine bodyPost_ret (results_none rfl _ _ _) rfl ?_)
  exact ⟨ze, zi6, zb, zk⟩
 ·rw [if_neg c3] at H
  have c3b0 : (s0_2 == 0) = false := beq_eq_false_iff_ne.mpr c3
  have c3b1 : (s0_2 != 0) = true := bne_iff_ne.mpr c3
  simp only [Option.some.injEq, Prod.mk.injEq] at H
  obtain ⟨rfl, rfl, rfl⟩ := H
  obtain ⟨HGz5, hgz5⟩ := HI0.out
  have hcz5_0 := cellS116_0 HGz5
  have hcz5_1 := cellS116_1 HGz5
  have hcz5_2 := cellS116_2 HGz5
  have hfz5_0 := blk_frozen HGz5 0
  have hfz5_1 := blk_frozen HGz5 1
  have hfz5_2 := blk_frozen HGz5 2
  clear HGz5 hgz5
  go_enter Try.func95, Try.ntmps95
  go_wp2
  first | go_end0 | ((try simp only [Exit.inBlock, Exit.then]); refine bodyPost_ret (results_none rfl _ _ _) rfl ?_)
  exact ⟨ze, zi6, zb, zk⟩
def dioramaref02_Cursor_Bytes.f (s0_0 : ByteArray) (s0_1 : Int) (s0_2 : Int) (a1 : Int) : Option (ByteArray × ByteArray × Int × Int) := if s0_2 = 0 then (if a1 < 0 then (some ((⟨#[]⟩ : ByteArray), s0_0, s0_1, 1)) else (if (wrap64 ((s0_0.size : Int) - s0_1)) < a1 then (some ((⟨#[]⟩ : ByteArray), s0_0, s0_1, 2)) else (if 0 ≤ (wrap64 ((wrap64 (s0_1 + a1)) - a1)) then (if (wrap64 ((wrap64 (s0_1 + a1)) - a1)) ≤ (wrap64 (s0_1 + a1)) then (if (wrap64 (s0_1 + a1)) ≤ (s0_0.size : Int) then (some (s0_0.extract ((wrap64 ((wrap64 (s0_1 + a1)) - a1)) : Int).toNat ((wrap64 (s0_1 + a1)) : Int).toNat, s0_0, wrap64 (s0_1 + a1), s0_2)) else (none)) else (none)) else (none)))) else (some ((⟨#[]⟩ : ByteArray), s0_0, s0_1, s0_2))
set_option maxHeartbeats 8000000 in
set_option maxRecDepth 100000 in
theorem dioramaref02_Cursor_Bytes.calls (g : Nat) (s0_0 : ByteArray) (s0_1 : Int) (s0_2 : Int) (a1 : Int) (r1 : ByteArray) (r2 : ByteArray) (r3 : Int) (r4 : Int) (w0 w : World) (hI : IsS116 w0 w g s0_0 s0_1 s0_2) (hB : Below w0.heap.size w0 w) (h : dioramaref02_Cursor_Bytes.f s0_0 s0_1 s0_2 a1 = some (r1, r2, r3, r4)) :
  Calls Try.prog 113 #[.pointer (some ⟨g, 0, none⟩), .int .i64 a1] w fun e w' => e = .returned (.string r1) ∧ IsS116 w0 w' g r2 r3 r4 ∧ Below w0.heap.size w0 w' ∧ KeepBut w w' g none := by
 have HI0 := Aside0.mk hI
 have HK := Aside0.mk (KeepBut.refl w g none)
 have HL := Aside0.mk hB.size
 clear hI
 have HW0 := Aside0.mk hB.size
 have HB := Aside0.mk hB
 clear hB
 have H : (if s0_2 = 0 then (if a1 < 0 then (some ((⟨#[]⟩ : ByteArray), s0_0, s0_1, 1)) else (if (wrap64 ((s0_0.size : Int) - s0_1)) < a1 then (some ((⟨#[]⟩ : ByteArray), s0_0, s0_1, 2)) else (if 0 ≤ (wrap64 ((wrap64 (s0_1 + a1)) - a1)) then (if (wrap64 ((wrap64 (s0_1 + a1)) - a1)) ≤ (wrap64 (s0_1 + a1)) then (if (wrap64 (s0_1 + a1)) ≤ (s0_0.size : Int) then (some (s0_0.extract ((wrap64 ((wrap64 (s0_1 + a1)) - a1)) : Int).toNat ((wrap64 (s0_1 + a1)) : Int).toNat, s0_0, wrap64 (s0_1 + a1), s0_2)) else (none)) else (none)) else (none)))) else (some ((⟨#[]⟩ : ByteArray), s0_0, s0_1, s0_2))) = some (r1, r2, r3, r4) := h
 clear h
 by_cases c3 : s0_2 = 0
 ·rw [if_pos c3] at H
  have c3b0 : (s0_2 == 0) = true := beq_iff_eq.mpr c3
  have c3b1 : (s0_2 != 0) = false := bne_eq_false_iff_eq.mpr c3
  clear c3
  by_cases c4 : a1 < 0
  ·rw [if_pos c4] at H
   have c4b0 : decide (a1 < 0) = true := decide_eq_true c4
   clear c4
   simp only [Option.some.injEq, Prod.mk.injEq] at H
   obtain ⟨rfl, rfl, rfl, rfl⟩ := H
   obtain ⟨HGz5, hgz5⟩ := HI0.out
   have hcz5_0 := cellS116_0 HGz5
   have hcz5_1 := cellS116_1 HGz5
   have hcz5_2 := cellS116_2 HGz5
   have hfz5_0 := blk_frozen HGz5 0
   have hfz5_1 := blk_frozen HGz5 1
   have hfz5_2 := blk_frozen HGz5 2
   clear HGz5 hgz5
   go_enter Try.func113, Try.ntmps113
   go_wp2
   repeat (go_quiet (fail); try go_wp2)
   go_ret
   exact ⟨ze, zi6, zb, zk⟩
  ·rw [if_neg c4] at H
   have c4b0 : decide (a1 < 0) = false := decide_eq_false c4
   clear c4
   by_cases c6 : (wrap64 ((s0_0.size : Int) - s0_1)) < a1
   ·rw [if_pos c6] at H
    have c6b0 : decide ((wrap64 ((s0_0.size : Int) - s0_1)) < a1) = true := decide_eq_true c6
    clear c6
    simp only [Option.some.injEq, Prod.mk.injEq] at H
    obtain ⟨rfl, rfl, rfl, rfl⟩ := H
    obtain ⟨HGz7, hgz7⟩ := HI0.out
    have hcz7_0 := cellS116_0 HGz7
    have hcz7_1 := cellS116_1 HGz7
    have hcz7_2 := cellS116_2 HGz7
    have hfz7_0 := blk_frozen HGz7 0
    have hfz7_1 := blk_frozen HGz7 1
    have hfz7_2 := blk_frozen HGz7 2
    clear HGz7 hgz7
    go_enter Try.func113, Try.ntmps113
    go_wp2
    repeat (go_quiet (fail); try go_wp2)
    go_ret
    exact ⟨ze, zi6, zb, zk⟩
   ·rw [if_neg c6] at H
    have c6b0 : decide ((wrap64 ((s0_0.size : Int) - s0_1)) < a1) = false := decide_eq_false c6
    clear c6
    obtain ⟨ji8, hji8⟩ : ∃ j_ : Int, (wrap64 ((wrap64 (s0_1 + a1)) - a1)) = j_ := ⟨_, rfl⟩
    replace H : (if 0 ≤ (ji8) then (if (ji8) ≤ (wrap64 (s0_1 + a1)) then (if (wrap64 (s0_1 + a1)) ≤ (s0_0.size : Int) then (some (s0_0.extract ((ji8) : Int).toNat ((wrap64 (s0_1 + a1)) : Int).toNat, s0_0, wrap64 (s0_1 + a1), s0_2)) else (none)) else (none)) else (none)) = some (r1, r2, r3, r4) := by first | (rw [hji8] at H; exact H) | (simp only [hji8] at H ⊢; exact H)
    have hji8w : (IntKind.i64.wrap ((wrap64 (s0_1 + a1)) - a1)) = ji8 := (i64_w _).trans hji8
    by_cases c9 : 0 ≤ (ji8)
    ·rw [if_pos c9] at H
     have c9b0 := eq_true c9
     have c9b1 : decide (0 ≤ (ji8)) = true := decide_eq_true c9
     clear c9
     by_cases c10 : (ji8) ≤ (wrap64 (s0_1 + a1))
     ·rw [if_pos c10] at H
      have c10b0 := eq_true c10
      have c10b1 : decide ((ji8) ≤ (wrap64 (s0_1 + a1))) = true := decide_eq_true c10
      by_cases c11 : (wrap64 (s0_1 + a1)) ≤ (s0_0.size : Int)
      ·rw [if_pos c11] at H
       have c11b0 := eq_true c11
       have c11b1 : decide ((wrap64 (s0_1 + a1)) ≤ (s0_0.size : Int)) = true := decide_eq_true c11
       simp only [Option.some.injEq, Prod.mk.injEq] at H
       obtain ⟨rfl, rfl, rfl, rfl⟩ := H
       obtain ⟨HGz12, hgz12⟩ := HI0.out
       have hcz12_0 := cellS116_0 HGz12
       have hcz12_1 := cellS116_1 HGz12
       have hcz12_2 := cellS116_2 HGz12
       have hfz12_0 := blk_frozen HGz12 0
       have hfz12_1 := blk_frozen HGz12 1
       have hfz12_2 := blk_frozen HGz12 2
       clear HGz12 hgz12
       go_enter Try.func113, Try.ntmps113
       go_wp2
       repeat (go_quiet (fail); try go_wp2)
       go_ret
       exact ⟨by first | rfl | (simp [errW_none, errW_some] <;> rfl) | (simp only [← hji8]; first | rfl | (simp [errW_none, errW_some] <;> rfl)) | (simp [*, errW_none, errW_some] <;> rfl), zi6, zb, zk⟩
      ·rw [if_neg c11] at H
       exact absurd H (by simp)
     ·rw [if_neg c10] at H
      exact absurd H (by simp)
    ·rw [if_neg c9] at H
     exact absurd H (by simp)
 ·rw [if_neg c3] at H
  have c3b0 : (s0_2 == 0) = false := beq_eq_false_iff_ne.mpr c3
  have c3b1 : (s0_2 != 0) = true := bne_iff_ne.mpr c3
  simp only [Option.some.injEq, Prod.mk.injEq] at H
  obtain ⟨rfl, rfl, rfl, rfl⟩ := H
  obtain ⟨HGz13, hgz13⟩ := HI0.out
  have hcz13_0 := cellS116_0 HGz13
  have hcz13_1 := cellS116_1 HGz13
  have hcz13_2 := cellS116_2 HGz13
  have hfz13_0 := blk_frozen HGz13 0
  have hfz13_1 := blk_frozen HGz13 1
  have hfz13_2 := blk_frozen HGz13 2
  clear HGz13 hgz13
  go_enter Try.func113, Try.ntmps113
  go_wp2
  repeat (go_quiet (fail); try go_wp2)
  go_ret
  exact ⟨ze, zi6, zb, zk⟩
def dioramaref01_Zag.f (a0 : Int) : Option (Int) := if (Int.tmod a0 2) = 0 then (some (wrap64 (IntKind.u64.wrap (Int.tdiv a0 2)))) else (some (wrap64 ((wrap64 (-(wrap64 (IntKind.u64.wrap (Int.tdiv a0 2))))) - 1)))
set_option maxHeartbeats 8000000 in
set_option maxRecDepth 100000 in
theorem dioramaref01_Zag.calls (a0 : Int) (r : Int) (w : World) (h : dioramaref01_Zag.f a0 = some r) :
  Calls Try.prog 114 #[.int .u64 a0] w fun e w' => e = .returned (.int .i64 r) ∧ Drawn0 w w' := by
 have H : (if (Int.tmod a0 2) = 0 then (some (wrap64 (IntKind.u64.wrap (Int.tdiv a0 2)))) else (some (wrap64 ((wrap64 (-(wrap64 (IntKind.u64.wrap (Int.tdiv a0 2))))) - 1)))) = some r := h
 clear h
 by_cases c2 : (Int.tmod a0 2) = 0
 ·rw [if_pos c2] at H
  have c2b0 : ((Int.tmod a0 2) == 0) = true := beq_iff_eq.mpr c2
  have c2b1 : ((Int.tmod a0 2) != 0) = false := bne_eq_false_iff_eq.mpr c2
  clear c2
  obtain rfl := Option.some.inj H
  go_enter Try.func114, Try.ntmps114
  go_wp2
  go_ret
  exact ⟨by first | rfl | (simp; done) | (simp [*]; done), by repeat (first | exact Drawn0.refl _ | apply Drawn0.step)⟩
 ·rw [if_neg c2] at H
  have c2b0 : ((Int.tmod a0 2) == 0) = false := beq_eq_false_iff_ne.mpr c2
  have c2b1 : ((Int.tmod a0 2) != 0) = true := bne_iff_ne.mpr c2
  obtain rfl := Option.some.inj H
  go_enter Try.func114, Try.ntmps114
  go_wp2
  go_ret
  exact ⟨by first | rfl | (simp; done) | (simp [*]; done), by repeat (first | exact Drawn0.refl _ | apply Drawn0.step)⟩
def dioramaref02_Cursor_Int.f (k : Nat) (s0_0 : ByteArray) (s0_1 : Int) (s0_2 : Int) : Option (Int × ByteArray × Int × Int) := if s0_2 = 0 then ((dioramaref01_Get.f k s0_0 s0_1).bind fun bt188 => (if bt188.2.2 = 0 then ((dioramaref01_Zag.f bt188.1).bind fun t191 => (some (t191, s0_0, bt188.2.1, s0_2))) else (some (0, s0_0, s0_1, bt188.2.2)))) else (some (0, s0_0, s0_1, s0_2))
set_option maxHeartbeats 8000000 in
set_option maxRecDepth 100000 in
theorem dioramaref02_Cursor_Int.calls (k : Nat) (g : Nat) (s0_0 : ByteArray) (s0_1 : Int) (s0_2 : Int) (r1 : Int) (r2 : ByteArray) (r3 : Int) (r4 : Int) (w0 w : World) (hI : IsS116 w0 w g s0_0 s0_1 s0_2) (hB : Below w0.heap.size w0 w) (h : dioramaref02_Cursor_Int.f k s0_0 s0_1 s0_2 = some (r1, r2, r3, r4)) :
  Calls Try.prog 108 #[.pointer (some ⟨g, 0, none⟩)] w fun e w' => e = .returned (.int .i64 r1) ∧ IsS116 w0 w' g r2 r3 r4 ∧ Below w0.heap.size w0 w' ∧ KeepBut w w' g none := by
 have HI0 := Aside0.mk hI
 have HK := Aside0.mk (KeepBut.refl w g none)
 have HL := Aside0.mk hB.size
 clear hI
 have HW0 := Aside0.mk hB.size
 have HB := Aside0.mk hB
 clear hB
 have H : (if s0_2 = 0 then ((dioramaref01_Get.f k s0_0 s0_1).bind fun bt188 => (if bt188.2.2 = 0 then ((dioramaref01_Zag.f bt188.1).bind fun t191 => (some (t191, s0_0, bt188.2.1, s0_2))) else (some (0, s0_0, s0_1, bt188.2.2)))) else (some (0, s0_0, s0_1, s0_2))) = some (r1, r2, r3, r4) := h
 clear h
 by_cases c2 : s0_2 = 0
 ·rw [if_pos c2] at H
  have c2b0 : (s0_2 == 0) = true := beq_iff_eq.mpr c2
  have c2b1 : (s0_2 != 0) = false := bne_eq_false_iff_eq.mpr c2
  clear c2
  replace H := Option.bind_eq_some_iff.mp H
  obtain ⟨⟨t188, t189, t190⟩, A30, H⟩ := H
  replace H : (if t190 = 0 then ((dioramaref01_Zag.f t188).bind fun t191 => (some (t191, s0_0, t189, s0_2))) else (some (0, s0_0, s0_1, t190))) = some (r1, r2, r3, r4) := H
  have A3 := Aside0.mk A30
  clear A30
  by_cases c4 : t190 = 0
  ·rw [if_pos c4] at H
   have c4b0 : (t190 == 0) = true := beq_iff_eq.mpr c4
   have c4b1 : (t190 != 0) = false := bne_eq_false_iff_eq.mpr c4
   clear c4
   replace H := Option.bind_eq_some_iff.mp H
   obtain ⟨t191, A50, H⟩ := H
   replace H : (some (t191, s0_0, t189, s0_2)) = some (r1, r2, r3, r4) := H
   have A5 := Aside0.mk A50
   clear A50
   simp only [Option.some.injEq, Prod.mk.injEq] at H
   obtain ⟨rfl, rfl, rfl, rfl⟩ := H
   obtain ⟨HGz6, hgz6⟩ := HI0.out
   have hcz6_0 := cellS116_0 HGz6
   have hcz6_1 := cellS116_1 HGz6
   have hcz6_2 := cellS116_2 HGz6
   have hfz6_0 := blk_frozen HGz6 0
   have hfz6_1 := blk_frozen HGz6 1
   have hfz6_2 := blk_frozen HGz6 2
   clear HGz6 hgz6
   go_enter Try.func108, Try.ntmps108
   go_wp2_with (first | (go_at_call 56; (with_reducible refine (dioramaref01_Get.calls k s0_0 s0_1 t188 t189 t190 _ A3.out).mono ?_); rintro e w' ⟨rfl, ⟨nd, rfl⟩⟩; (try first | exact ⟨rfl, _, World.drewN_drewN _ _ _⟩ | exact ⟨rfl, _, Eq.trans (World.drewN_drewN _ _ _) (congrArg (World.drewN _) (Nat.add_assoc _ _ _))⟩)) | (go_at_call 114; (with_reducible refine (dioramaref01_Zag.calls t188 t191 _ A5.out).mono ?_); rintro e w' ⟨rfl, ⟨nd, rfl⟩⟩; (try first | exact ⟨rfl, _, World.drewN_drewN _ _ _⟩ | exact ⟨rfl, _, Eq.trans (World.drewN_drewN _ _ _) (congrArg (World.drewN _) (Nat.add_assoc _ _ _))⟩)))
   repeat (go_quiet (first | (go_at_call 56; (with_reducible refine (dioramaref01_Get.calls k s0_0 s0_1 t188 t189 t190 _ A3.out).mono ?_); rintro e w' ⟨rfl, ⟨nd, rfl⟩⟩; (try first | exact ⟨rfl, _, World.drewN_drewN _ _ _⟩ | exact ⟨rfl, _, Eq.trans (World.drewN_drewN _ _ _) (congrArg (World.drewN _) (Nat.add_assoc _ _ _))⟩)) | (go_at_call 114; (with_reducible refine (dioramaref01_Zag.calls t188 t191 _ A5.out).mono ?_); rintro e w' ⟨rfl, ⟨nd, rfl⟩⟩; (try first | exact ⟨rfl, _, World.drewN_drewN _ _ _⟩ | exact ⟨rfl, _, Eq.trans (World.drewN_drewN _ _ _) (congrArg (World.drewN _) (Nat.add_assoc _ _ _))⟩))); try go_wp2_with (first | (go_at_call 56; (with_reducible refine (dioramaref01_Get.calls k s0_0 s0_1 t188 t189 t190 _ A3.out).mono ?_); rintro e w' ⟨rfl, ⟨nd, rfl⟩⟩; (try first | exact ⟨rfl, _, World.drewN_drewN _ _ _⟩ | exact ⟨rfl, _, Eq.trans (World.drewN_drewN _ _ _) (congrArg (World.drewN _) (Nat.add_assoc _ _ _))⟩)) | (go_at_call 114; (with_reducible refine (dioramaref01_Zag.calls t188 t191 _ A5.out).mono ?_); rintro e w' ⟨rfl, ⟨nd, rfl⟩⟩; (try first | exact ⟨rfl, _, World.drewN_drewN _ _ _⟩ | exact ⟨rfl, _, Eq.trans (World.drewN_drewN _ _ _) (congrArg (World.drewN _) (Nat.add_assoc _ _ _))⟩))))
   go_ret
   exact ⟨ze, zi6, zb, zk⟩
  ·rw [if_neg c4] at H
   have c4b0 : (t190 == 0) = false := beq_eq_false_iff_ne.mpr c4
   have c4b1 : (t190 != 0) = true := bne_iff_ne.mpr c4
   simp only [Option.some.injEq, Prod.mk.injEq] at H
   obtain ⟨rfl, rfl, rfl, rfl⟩ := H
   obtain ⟨HGz7, hgz7⟩ := HI0.out
   have hcz7_0 := cellS116_0 HGz7
   have hcz7_1 := cellS116_1 HGz7
   have hcz7_2 := cellS116_2 HGz7
   have hfz7_0 := blk_frozen HGz7 0
   have hfz7_1 := blk_frozen HGz7 1
   have hfz7_2 := blk_frozen HGz7 2
   clear HGz7 hgz7
   go_enter Try.func108, Try.ntmps108
   go_wp2_with (first | (go_at_call 56; (with_reducible refine (dioramaref01_Get.calls k s0_0 s0_1 t188 t189 t190 _ A3.out).mono ?_); rintro e w' ⟨rfl, ⟨nd, rfl⟩⟩; (try first | exact ⟨rfl, _, World.drewN_drewN _ _ _⟩ | exact ⟨rfl, _, Eq.trans (World.drewN_drewN _ _ _) (congrArg (World.drewN _) (Nat.add_assoc _ _ _))⟩)))
   repeat (go_quiet (first | (go_at_call 56; (with_reducible refine (dioramaref01_Get.calls k s0_0 s0_1 t188 t189 t190 _ A3.out).mono ?_); rintro e w' ⟨rfl, ⟨nd, rfl⟩⟩; (try first | exact ⟨rfl, _, World.drewN_drewN _ _ _⟩ | exact ⟨rfl, _, Eq.trans (World.drewN_drewN _ _ _) (congrArg (World.drewN _) (Nat.add_assoc _ _ _))⟩))); try go_wp2_with (first | (go_at_call 56; (with_reducible refine (dioramaref01_Get.calls k s0_0 s0_1 t188 t189 t190 _ A3.out).mono ?_); rintro e w' ⟨rfl, ⟨nd, rfl⟩⟩; (try first | exact ⟨rfl, _, World.drewN_drewN _ _ _⟩ | exact ⟨rfl, _, Eq.trans (World.drewN_drewN _ _ _) (congrArg (World.drewN _) (Nat.add_assoc _ _ _))⟩))))
   go_ret
   exact ⟨ze, zi6, zb, zk⟩
 ·rw [if_neg c2] at H
  have c2b0 : (s0_2 == 0) = false := beq_eq_false_iff_ne.mpr c2
  have c2b1 : (s0_2 != 0) = true := bne_iff_ne.mpr c2
  simp only [Option.some.injEq, Prod.mk.injEq] at H
  obtain ⟨rfl, rfl, rfl, rfl⟩ := H
  obtain ⟨HGz8, hgz8⟩ := HI0.out
  have hcz8_0 := cellS116_0 HGz8
  have hcz8_1 := cellS116_1 HGz8
  have hcz8_2 := cellS116_2 HGz8
  have hfz8_0 := blk_frozen HGz8 0
  have hfz8_1 := blk_frozen HGz8 1
  have hfz8_2 := blk_frozen HGz8 2
  clear HGz8 hgz8
  go_enter Try.func108, Try.ntmps108
  go_wp2
  repeat (go_quiet (fail); try go_wp2)
  go_ret
  exact ⟨ze, zi6, zb, zk⟩
end Go.Proofs.Ytdjpelcdijpihaa.PrintF
