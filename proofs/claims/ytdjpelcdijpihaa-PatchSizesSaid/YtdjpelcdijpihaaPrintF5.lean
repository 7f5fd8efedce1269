-- Printed for this claim by the session's own driver (xprint.py) out of the translation; Lean checks it.
import Derived.Test.YtdjpelcdijpihaaPrintF0
import Derived.Test.YtdjpelcdijpihaaHandFrame
import Derived.Test.YtdjpelcdijpihaaPrintC1
namespace Go.Proofs.Ytdjpelcdijpihaa.PrintF
open Go.Proofs.Ytdjpelcdijpihaa.Print
open Go.RowKit Go.Proofs.YtdjpelcdijpihaaW.PrintWords Go.Proofs.YtdjpelcdijpihaaW.PrintLast Go.Proofs.YtdjpelcdijpihaaW.PrintMore
attribute [local go_sem] max2_int min2_int max_two min_two max_three min_three max_four min_four   -- for this text's walks alone
set_option linter.unusedVariables false
set_option linter.unusedSimpArgs false

/-! ### patch_Put: function 37 -/
def patch_Put.j0 : Nat → Bool → Int → Int → Int → List (S107) → ByteArray → Option (ByteArray × Int)
  | 0, _, _, _, _, _, _ => none
  | k + 1, x47, x225000, x225001, x225002, x225003, x225004 => if x47 = true then (some ((⟨#[]⟩ : ByteArray), 1)) else (if x225002 = 1 then (none) else ((crc_Put.f x225000).bind fun t225 => ((crc_Put.f ((x225001) % 4294967296)).bind fun t226 => (if t225.size + t226.size ≤ 9223372036854775807 then ((some (([(x225002) % 256] : List Int) : List Int)).bind fun y227 => (if (t225 ++ t226).size + (strOfNums y227).size ≤ 9223372036854775807 then ((frame_Put.f (⟨#[68, 73, 79, 80]⟩ : ByteArray) 2 (([(⟨1, (t225 ++ t226) ++ (strOfNums y227)⟩ : S52), (⟨2, x225004⟩ : S52)] : List (S52)))).bind fun bt233 => (some (bt233.1, bt233.2))) else (none))) else (none)))))
def patch_Put.f (k : Nat) (a0_0 : Int) (a0_1 : Int) (a0_2 : Int) (l0_3 : List (S107)) (a0_4 : ByteArray) : Option (ByteArray × Int) := if a0_2 < 0 then (patch_Put.j0 k true a0_0 a0_1 a0_2 l0_3 a0_4) else (if a0_2 > 2 then (patch_Put.j0 k true a0_0 a0_1 a0_2 l0_3 a0_4) else (if a0_1 < 0 then (patch_Put.j0 k true a0_0 a0_1 a0_2 l0_3 a0_4) else (if a0_1 > 4294967295 then (patch_Put.j0 k true a0_0 a0_1 a0_2 l0_3 a0_4) else (if (l0_3.length : Int) > 0 then (if a0_2 = 1 then (if a0_4.toList = ([] : List UInt8) then (patch_Put.j0 k false a0_0 a0_1 a0_2 l0_3 a0_4) else (patch_Put.j0 k (a0_2 != 2) a0_0 a0_1 a0_2 l0_3 a0_4)) else (patch_Put.j0 k true a0_0 a0_1 a0_2 l0_3 a0_4)) else (if a0_4.toList = ([] : List UInt8) then (patch_Put.j0 k false a0_0 a0_1 a0_2 l0_3 a0_4) else (patch_Put.j0 k (a0_2 != 2) a0_0 a0_1 a0_2 l0_3 a0_4))))))
theorem patch_Put.mono_l : ∀ k, (∀ y0 y1 y2 y3 y4 y5, LeO (patch_Put.j0 k y0 y1 y2 y3 y4 y5) (patch_Put.j0 (k + 1) y0 y1 y2 y3 y4 y5))
  | 0 => fun _ _ _ _ _ _ r h => by simp [patch_Put.j0] at h
  | k + 1 => by
    have ih0 := patch_Put.mono_l k
    · intro y0 y1 y2 y3 y4 y5
      unfold patch_Put.j0
      repeat' first
      | (with_reducible exact ih0 _ _ _ _ _ _)
      | (with_reducible exact LeO.refl _)
      | (with_reducible exact LeO.none _)
      | (with_reducible refine LeO.ite ?_ ?_)
      | (with_reducible refine LeO.bind ?_ (fun _ => ?_))
      | exact ih0 _ _ _ _ _ _
      | exact LeO.none _
      | refine LeO.ite ?_ ?_
      | refine LeO.bind ?_ (fun _ => ?_)
theorem patch_Put.mono : ∀ a0 a1 a2 a3 a4 k, LeO (patch_Put.f k a0 a1 a2 a3 a4) (patch_Put.f (k + 1) a0 a1 a2 a3 a4) := by
  intro a0 a1 a2 a3 a4 k
  have ih0 := patch_Put.mono_l k
  unfold patch_Put.f
  repeat' first
      | (with_reducible exact ih0 _ _ _ _ _ _)
      | (with_reducible exact LeO.refl _)
      | (with_reducible exact LeO.none _)
      | (with_reducible refine LeO.ite ?_ ?_)
      | (with_reducible refine LeO.bind ?_ (fun _ => ?_))
      | exact ih0 _ _ _ _ _ _
      | exact LeO.none _
      | refine LeO.ite ?_ ?_
      | refine LeO.bind ?_ (fun _ => ?_)
def patch_Put.T15 : Bool × List (List Nat × List Nat) := (true, [([], []), ([0], [0]), ([1], [1]), ([], []), ([3], [3]), ([4], [4]), ([5, 2], [5]), ([2, 6], [2, 6]), ([], []), ([8], [8]), ([9], [9]), ([10], [10]), ([11], [11]), ([7, 12], [7, 12]), ([13, 6, 0, 1, 2, 3, 4, 5, 6, 7, 8, 9, 10, 11, 12, 13], [13])])
def patch_Put.B15 : List Nat := [0, 1, 3, 0, 8, 24, 63, 127, 0, 256, 768, 1792, 3840, 8191, 16383]
theorem patch_Put.tab15 : rtab .any (opsOf Try.f37 15) = patch_Put.T15 := by kernel_rfl
theorem patch_Put.bits15 : waitsOk patch_Put.T15.2 patch_Put.B15 = true := by kernel_rfl
set_option maxHeartbeats 8000000 in
set_option maxRecDepth 100000 in
theorem patch_Put.calls (k : Nat) (a0_0 : Int) (a0_1 : Int) (a0_2 : Int) (A0_3 : Option Addr) (c0_3 : Nat) (l0_3 : List (S107)) (a0_4 : ByteArray) (r1 : ByteArray) (r2 : Int) (w : World) (hr0_3 : Kd.C k107 w A0_3 l0_3.length l0_3) (hc0_3 : l0_3.length ≤ c0_3) (h : patch_Put.f k a0_0 a0_1 a0_2 l0_3 a0_4 = some (r1, r2)) :
    Calls Try.prog 37 #[.agg #[.int .u32 a0_0, .int .i64 a0_1, .int .i64 a0_2, .slice A0_3 l0_3.length c0_3, .string a0_4]] w fun e w' => e = .returned (.tuple #[.string r1, .int .i64 r2]) ∧ Below w.heap.size w w' := by
  have hu57 := Try.underlying57
  have hu107 := Try.underlying107
  have hu52 := Try.underlying52
  have HR0_3 := Aside0.mk hr0_3
  have HC0_3 := Aside0.mk hc0_3
  clear hr0_3 hc0_3
  have HB := Aside0.mk (Below.refl w.heap.size w)
  have H : (if a0_2 < 0 then (patch_Put.j0 k true a0_0 a0_1 a0_2 l0_3 a0_4) else (if a0_2 > 2 then (patch_Put.j0 k true a0_0 a0_1 a0_2 l0_3 a0_4) else (if a0_1 < 0 then (patch_Put.j0 k true a0_0 a0_1 a0_2 l0_3 a0_4) else (if a0_1 > 4294967295 then (patch_Put.j0 k true a0_0 a0_1 a0_2 l0_3 a0_4) else (if (l0_3.length : Int) > 0 then (if a0_2 = 1 then (if a0_4.toList = ([] : List UInt8) then (patch_Put.j0 k false a0_0 a0_1 a0_2 l0_3 a0_4) else (patch_Put.j0 k (a0_2 != 2) a0_0 a0_1 a0_2 l0_3 a0_4)) else (patch_Put.j0 k true a0_0 a0_1 a0_2 l0_3 a0_4)) else (if a0_4.toList = ([] : List UInt8) then (patch_Put.j0 k false a0_0 a0_1 a0_2 l0_3 a0_4) else (patch_Put.j0 k (a0_2 != 2) a0_0 a0_1 a0_2 l0_3 a0_4))))))) = some (r1, r2) := h
  clear h
  have HC2 := Aside0.mk H
  clear H
  go_enter Try.func37, Try.ntmps37
  go_upto_region 1 with (first | ((with_reducible refine gate_dst (N := 1) rfl ?_); (try (refine gate_guard (by rfl) ?_; dsimp only)); refine box_event ?hg (N := 1) ?hd (cs := #[.int .u32 a0_0, .int .i64 a0_1, .int .i64 a0_2, .slice A0_3 l0_3.length c0_3, .string a0_4]) (t := 57) ?hr ?_; (case hd => rfl); (case hg => rfl); (case hr => first | (go_simp; done) | (go_simp; rfl)); intro gb224 hg w3 hbox hb; have n0_ := Aside0.mk (below_step (by repeat (first | (with_reducible first | exact HB.out | apply below_alloc | apply pw_below_drewN | apply below_drew1) | exact HB.out)) hb); have n1_ := Aside0.mk (hbox); have n2_ := Aside0.mk ((by rw [hg]; exact (below_size (by repeat (first | (with_reducible first | exact HB.out | apply below_alloc | apply pw_below_drewN | apply below_drew1) | exact HB.out))) : w.heap.size ≤ gb224)); have n3_ := Aside0.mk ((by rw [hg]; exact (below_size (by repeat (first | (with_reducible first | exact HB.out | apply below_alloc | apply pw_below_drewN | apply below_drew1) | exact HB.out))) : w.heap.size ≤ gb224)); clear HB; have HB := n0_; have BK224 := n1_; have GW224 := n2_; have GE224 := n3_; clear n0_ n1_ n2_ n3_; clear hb hbox hg))
  (try simp only [Act.put, List.setIfInBounds_toArray, List.set_cons_zero, List.set_cons_succ])
  go_cut [47] (fun v47 wc => ∃ (kq : Nat) (x47_1 : Bool), v47 = .bool x47_1 ∧ Aside0 (patch_Put.j0 kq x47_1 a0_0 a0_1 a0_2 l0_3 a0_4 = some (r1, r2)) ∧ Aside0 (kq ≤ k) ∧ Aside0 (wc.heap[gb224]? = some (.cells #[.int .u32 a0_0, .int .i64 a0_1, .int .i64 a0_2, (.slice A0_3 l0_3.length c0_3), .string a0_4] 57 (0, 0))) ∧ Aside0 (Below w.heap.size w wc))
  case first =>
    have H := HC2.out
    clear HC2
    by_cases c4 : a0_2 < 0
    · rw [if_pos c4] at H
      have c4b0 : decide (a0_2 < 0) = true := decide_eq_true c4
      clear c4
      (first | rw [c4b0] | (simp only [i64_w, i32_w]; rw [c4b0]) | skip)
      have H' := Aside0.mk H
      clear H
      have hcz5_0 : w3.cell? ⟨gb224, 0, none⟩ = some (.int .u32 a0_0) := (blk_cell BK224.out 0).trans rfl
      have hcz5_1 : w3.cell? ⟨gb224, 1, none⟩ = some (.int .i64 a0_1) := (blk_cell BK224.out 1).trans rfl
      have hcz5_2 : w3.cell? ⟨gb224, 2, none⟩ = some (.int .i64 a0_2) := (blk_cell BK224.out 2).trans rfl
      have hcz5_3 : w3.cell? ⟨gb224, 3, none⟩ = some (.slice A0_3 l0_3.length c0_3) := (blk_cell BK224.out 3).trans rfl
      have hcz5_4 : w3.cell? ⟨gb224, 4, none⟩ = some (.string a0_4) := (blk_cell BK224.out 4).trans rfl
      have hfz5_0 := blk_frozen BK224.out 0
      have hfz5_1 := blk_frozen BK224.out 1
      have hfz5_2 := blk_frozen BK224.out 2
      have hfz5_3 := blk_frozen BK224.out 3
      have hfz5_4 := blk_frozen BK224.out 4
      go_wp2
      go_meet
      case rel => exact ⟨_, (true), (by first | rfl | (simp; done) | (simp [*]; done)), H', ⟨by first | omega | exact Nat.le_refl _⟩, ⟨by (with_reducible repeat (first | refine blk_drewN ?_ _ | refine blk_drew ?_ | refine blk_alloc ?_ _)); exact BK224.out⟩, ⟨by repeat (first | (with_reducible first | exact HB.out | apply below_alloc | apply pw_below_drewN | apply below_drew1 | refine below_set ?_ GE224.out) | exact HB.out)⟩⟩
    · rw [if_neg c4] at H
      have c4b0 : decide (a0_2 < 0) = false := decide_eq_false c4
      clear c4
      (first | rw [c4b0] | (simp only [i64_w, i32_w]; rw [c4b0]) | skip)
      by_cases c6 : a0_2 > 2
      · rw [if_pos c6] at H
        have c6b0 : decide (2 < a0_2) = true := decide_eq_true c6
        clear c6
        have H' := Aside0.mk H
        clear H
        have hcz7_0 : w3.cell? ⟨gb224, 0, none⟩ = some (.int .u32 a0_0) := (blk_cell BK224.out 0).trans rfl
        have hcz7_1 : w3.cell? ⟨gb224, 1, none⟩ = some (.int .i64 a0_1) := (blk_cell BK224.out 1).trans rfl
        have hcz7_2 : w3.cell? ⟨gb224, 2, none⟩ = some (.int .i64 a0_2) := (blk_cell BK224.out 2).trans rfl
        have hcz7_3 : w3.cell? ⟨gb224, 3, none⟩ = some (.slice A0_3 l0_3.length c0_3) := (blk_cell BK224.out 3).trans rfl
        have hcz7_4 : w3.cell? ⟨gb224, 4, none⟩ = some (.string a0_4) := (blk_cell BK224.out 4).trans rfl
        have hfz7_0 := blk_frozen BK224.out 0
        have hfz7_1 := blk_frozen BK224.out 1
        have hfz7_2 := blk_frozen BK224.out 2
        have hfz7_3 := blk_frozen BK224.out 3
        have hfz7_4 := blk_frozen BK224.out 4
        go_wp2
        go_meet
        case rel => exact ⟨_, (true), (by first | rfl | (simp; done) | (simp [*]; done)), H', ⟨by first | omega | exact Nat.le_refl _⟩, ⟨by (with_reducible repeat (first | refine blk_drewN ?_ _ | refine blk_drew ?_ | refine blk_alloc ?_ _)); exact BK224.out⟩, ⟨by repeat (first | (with_reducible first | exact HB.out | apply below_alloc | apply pw_below_drewN | apply below_drew1 | refine below_set ?_ GE224.out) | exact HB.out)⟩⟩
      · rw [if_neg c6] at H
        have c6b0 : decide (2 < a0_2) = false := decide_eq_false c6
        clear c6
        by_cases c8 : a0_1 < 0
        · rw [if_pos c8] at H
          have c8b0 : decide (a0_1 < 0) = true := decide_eq_true c8
          clear c8
          have H' := Aside0.mk H
          clear H
          have hcz9_0 : w3.cell? ⟨gb224, 0, none⟩ = some (.int .u32 a0_0) := (blk_cell BK224.out 0).trans rfl
          have hcz9_1 : w3.cell? ⟨gb224, 1, none⟩ = some (.int .i64 a0_1) := (blk_cell BK224.out 1).trans rfl
          have hcz9_2 : w3.cell? ⟨gb224, 2, none⟩ = some (.int .i64 a0_2) := (blk_cell BK224.out 2).trans rfl
          have hcz9_3 : w3.cell? ⟨gb224, 3, none⟩ = some (.slice A0_3 l0_3.length c0_3) := (blk_cell BK224.out 3).trans rfl
          have hcz9_4 : w3.cell? ⟨gb224, 4, none⟩ = some (.string a0_4) := (blk_cell BK224.out 4).trans rfl
          have hfz9_0 := blk_frozen BK224.out 0
          have hfz9_1 := blk_frozen BK224.out 1
          have hfz9_2 := blk_frozen BK224.out 2
          have hfz9_3 := blk_frozen BK224.out 3
          have hfz9_4 := blk_frozen BK224.out 4
          go_wp2
          go_meet
          case rel => exact ⟨_, (true), (by first | rfl | (simp; done) | (simp [*]; done)), H', ⟨by first | omega | exact Nat.le_refl _⟩, ⟨by (with_reducible repeat (first | refine blk_drewN ?_ _ | refine blk_drew ?_ | refine blk_alloc ?_ _)); exact BK224.out⟩, ⟨by repeat (first | (with_reducible first | exact HB.out | apply below_alloc | apply pw_below_drewN | apply below_drew1 | refine below_set ?_ GE224.out) | exact HB.out)⟩⟩
        · rw [if_neg c8] at H
          have c8b0 : decide (a0_1 < 0) = false := decide_eq_false c8
          clear c8
          by_cases c10 : a0_1 > 4294967295
          · rw [if_pos c10] at H
            have c10b0 : decide (4294967295 < a0_1) = true := decide_eq_true c10
            clear c10
            have H' := Aside0.mk H
            clear H
            have hcz11_0 : w3.cell? ⟨gb224, 0, none⟩ = some (.int .u32 a0_0) := (blk_cell BK224.out 0).trans rfl
            have hcz11_1 : w3.cell? ⟨gb224, 1, none⟩ = some (.int .i64 a0_1) := (blk_cell BK224.out 1).trans rfl
            have hcz11_2 : w3.cell? ⟨gb224, 2, none⟩ = some (.int .i64 a0_2) := (blk_cell BK224.out 2).trans rfl
            have hcz11_3 : w3.cell? ⟨gb224, 3, none⟩ = some (.slice A0_3 l0_3.length c0_3) := (blk_cell BK224.out 3).trans rfl
            have hcz11_4 : w3.cell? ⟨gb224, 4, none⟩ = some (.string a0_4) := (blk_cell BK224.out 4).trans rfl
            have hfz11_0 := blk_frozen BK224.out 0
            have hfz11_1 := blk_frozen BK224.out 1
            have hfz11_2 := blk_frozen BK224.out 2
            have hfz11_3 := blk_frozen BK224.out 3
            have hfz11_4 := blk_frozen BK224.out 4
            go_wp2
            go_meet
            case rel => exact ⟨_, (true), (by first | rfl | (simp; done) | (simp [*]; done)), H', ⟨by first | omega | exact Nat.le_refl _⟩, ⟨by (with_reducible repeat (first | refine blk_drewN ?_ _ | refine blk_drew ?_ | refine blk_alloc ?_ _)); exact BK224.out⟩, ⟨by repeat (first | (with_reducible first | exact HB.out | apply below_alloc | apply pw_below_drewN | apply below_drew1 | refine below_set ?_ GE224.out) | exact HB.out)⟩⟩
          · rw [if_neg c10] at H
            have c10b0 : decide (4294967295 < a0_1) = false := decide_eq_false c10
            clear c10
            by_cases c12 : (l0_3.length : Int) > 0
            · rw [if_pos c12] at H
              have c12b0 : decide (0 < (l0_3.length : Int)) = true := decide_eq_true c12
              have c12b1 : decide (0 < l0_3.length) = true := decide_eq_true (by omega)
              clear c12
              by_cases c13 : a0_2 = 1
              · rw [if_pos c13] at H
                have c13b0 : (a0_2 == 1) = true := beq_iff_eq.mpr c13
                have c13b1 : (a0_2 != 1) = false := bne_eq_false_iff_eq.mpr c13
                clear c13
                by_cases c14 : a0_4.toList = ([] : List UInt8)
                · rw [if_pos c14] at H
                  have c14b0 : (a0_4.toList == ([] : List UInt8)) = true := beq_iff_eq.mpr c14
                  have c14b1 : (a0_4.toList != ([] : List UInt8)) = false := bne_eq_false_iff_eq.mpr c14
                  clear c14
                  have H' := Aside0.mk H
                  clear H
                  have hcz15_0 : w3.cell? ⟨gb224, 0, none⟩ = some (.int .u32 a0_0) := (blk_cell BK224.out 0).trans rfl
                  have hcz15_1 : w3.cell? ⟨gb224, 1, none⟩ = some (.int .i64 a0_1) := (blk_cell BK224.out 1).trans rfl
                  have hcz15_2 : w3.cell? ⟨gb224, 2, none⟩ = some (.int .i64 a0_2) := (blk_cell BK224.out 2).trans rfl
                  have hcz15_3 : w3.cell? ⟨gb224, 3, none⟩ = some (.slice A0_3 l0_3.length c0_3) := (blk_cell BK224.out 3).trans rfl
                  have hcz15_4 : w3.cell? ⟨gb224, 4, none⟩ = some (.string a0_4) := (blk_cell BK224.out 4).trans rfl
                  have hfz15_0 := blk_frozen BK224.out 0
                  have hfz15_1 := blk_frozen BK224.out 1
                  have hfz15_2 := blk_frozen BK224.out 2
                  have hfz15_3 := blk_frozen BK224.out 3
                  have hfz15_4 := blk_frozen BK224.out 4
                  go_wp2
                  go_meet
                  case rel => exact ⟨_, (false), (by first | rfl | (simp; done) | (simp [*]; done)), H', ⟨by first | omega | exact Nat.le_refl _⟩, ⟨by (with_reducible repeat (first | refine blk_drewN ?_ _ | refine blk_drew ?_ | refine blk_alloc ?_ _)); exact BK224.out⟩, ⟨by repeat (first | (with_reducible first | exact HB.out | apply below_alloc | apply pw_below_drewN | apply below_drew1 | refine below_set ?_ GE224.out) | exact HB.out)⟩⟩
                · rw [if_neg c14] at H
                  have c14b0 : (a0_4.toList == ([] : List UInt8)) = false := beq_eq_false_iff_ne.mpr c14
                  have c14b1 : (a0_4.toList != ([] : List UInt8)) = true := bne_iff_ne.mpr c14
                  have H' := Aside0.mk H
                  clear H
                  have hcz16_0 : w3.cell? ⟨gb224, 0, none⟩ = some (.int .u32 a0_0) := (blk_cell BK224.out 0).trans rfl
                  have hcz16_1 : w3.cell? ⟨gb224, 1, none⟩ = some (.int .i64 a0_1) := (blk_cell BK224.out 1).trans rfl
                  have hcz16_2 : w3.cell? ⟨gb224, 2, none⟩ = some (.int .i64 a0_2) := (blk_cell BK224.out 2).trans rfl
                  have hcz16_3 : w3.cell? ⟨gb224, 3, none⟩ = some (.slice A0_3 l0_3.length c0_3) := (blk_cell BK224.out 3).trans rfl
                  have hcz16_4 : w3.cell? ⟨gb224, 4, none⟩ = some (.string a0_4) := (blk_cell BK224.out 4).trans rfl
                  have hfz16_0 := blk_frozen BK224.out 0
                  have hfz16_1 := blk_frozen BK224.out 1
                  have hfz16_2 := blk_frozen BK224.out 2
                  have hfz16_3 := blk_frozen BK224.out 3
                  have hfz16_4 := blk_frozen BK224.out 4
                  go_wp2
                  go_meet
                  case rel => exact ⟨_, ((a0_2 != 2)), (by first | rfl | (simp; done) | (simp [*]; done)), H', ⟨by first | omega | exact Nat.le_refl _⟩, ⟨by (with_reducible repeat (first | refine blk_drewN ?_ _ | refine blk_drew ?_ | refine blk_alloc ?_ _)); exact BK224.out⟩, ⟨by repeat (first | (with_reducible first | exact HB.out | apply below_alloc | apply pw_below_drewN | apply below_drew1 | refine below_set ?_ GE224.out) | exact HB.out)⟩⟩
              · rw [if_neg c13] at H
                have c13b0 : (a0_2 == 1) = false := beq_eq_false_iff_ne.mpr c13
                have c13b1 : (a0_2 != 1) = true := bne_iff_ne.mpr c13
                have H' := Aside0.mk H
                clear H
                have hcz17_0 : w3.cell? ⟨gb224, 0, none⟩ = some (.int .u32 a0_0) := (blk_cell BK224.out 0).trans rfl
                have hcz17_1 : w3.cell? ⟨gb224, 1, none⟩ = some (.int .i64 a0_1) := (blk_cell BK224.out 1).trans rfl
                have hcz17_2 : w3.cell? ⟨gb224, 2, none⟩ = some (.int .i64 a0_2) := (blk_cell BK224.out 2).trans rfl
                have hcz17_3 : w3.cell? ⟨gb224, 3, none⟩ = some (.slice A0_3 l0_3.length c0_3) := (blk_cell BK224.out 3).trans rfl
                have hcz17_4 : w3.cell? ⟨gb224, 4, none⟩ = some (.string a0_4) := (blk_cell BK224.out 4).trans rfl
                have hfz17_0 := blk_frozen BK224.out 0
                have hfz17_1 := blk_frozen BK224.out 1
                have hfz17_2 := blk_frozen BK224.out 2
                have hfz17_3 := blk_frozen BK224.out 3
                have hfz17_4 := blk_frozen BK224.out 4
                go_wp2
                go_meet
                case rel => exact ⟨_, (true), (by first | rfl | (simp; done) | (simp [*]; done)), H', ⟨by first | omega | exact Nat.le_refl _⟩, ⟨by (with_reducible repeat (first | refine blk_drewN ?_ _ | refine blk_drew ?_ | refine blk_alloc ?_ _)); exact BK224.out⟩, ⟨by repeat (first | (with_reducible first | exact HB.out | apply below_alloc | apply pw_below_drewN | apply below_drew1 | refine below_set ?_ GE224.out) | exact HB.out)⟩⟩
            · rw [if_neg c12] at H
              have c12b0 : decide (0 < (l0_3.length : Int)) = false := decide_eq_false c12
              have c12b1 : decide (0 < l0_3.length) = false := decide_eq_false (by omega)
              clear c12
              by_cases c18 : a0_4.toList = ([] : List UInt8)
              · rw [if_pos c18] at H
                have c18b0 : (a0_4.toList == ([] : List UInt8)) = true := beq_iff_eq.mpr c18
                have c18b1 : (a0_4.toList != ([] : List UInt8)) = false := bne_eq_false_iff_eq.mpr c18
                clear c18
                have H' := Aside0.mk H
                clear H
                have hcz19_0 : w3.cell? ⟨gb224, 0, none⟩ = some (.int .u32 a0_0) := (blk_cell BK224.out 0).trans rfl
                have hcz19_1 : w3.cell? ⟨gb224, 1, none⟩ = some (.int .i64 a0_1) := (blk_cell BK224.out 1).trans rfl
                have hcz19_2 : w3.cell? ⟨gb224, 2, none⟩ = some (.int .i64 a0_2) := (blk_cell BK224.out 2).trans rfl
                have hcz19_3 : w3.cell? ⟨gb224, 3, none⟩ = some (.slice A0_3 l0_3.length c0_3) := (blk_cell BK224.out 3).trans rfl
                have hcz19_4 : w3.cell? ⟨gb224, 4, none⟩ = some (.string a0_4) := (blk_cell BK224.out 4).trans rfl
                have hfz19_0 := blk_frozen BK224.out 0
                have hfz19_1 := blk_frozen BK224.out 1
                have hfz19_2 := blk_frozen BK224.out 2
                have hfz19_3 := blk_frozen BK224.out 3
                have hfz19_4 := blk_frozen BK224.out 4
                go_wp2
                go_meet
                case rel => exact ⟨_, (false), (by first | rfl | (simp; done) | (simp [*]; done)), H', ⟨by first | omega | exact Nat.le_refl _⟩, ⟨by (with_reducible repeat (first | refine blk_drewN ?_ _ | refine blk_drew ?_ | refine blk_alloc ?_ _)); exact BK224.out⟩, ⟨by repeat (first | (with_reducible first | exact HB.out | apply below_alloc | apply pw_below_drewN | apply below_drew1 | refine below_set ?_ GE224.out) | exact HB.out)⟩⟩
              · rw [if_neg c18] at H
                have c18b0 : (a0_4.toList == ([] : List UInt8)) = false := beq_eq_false_iff_ne.mpr c18
                have c18b1 : (a0_4.toList != ([] : List UInt8)) = true := bne_iff_ne.mpr c18
                have H' := Aside0.mk H
                clear H
                have hcz20_0 : w3.cell? ⟨gb224, 0, none⟩ = some (.int .u32 a0_0) := (blk_cell BK224.out 0).trans rfl
                have hcz20_1 : w3.cell? ⟨gb224, 1, none⟩ = some (.int .i64 a0_1) := (blk_cell BK224.out 1).trans rfl
                have hcz20_2 : w3.cell? ⟨gb224, 2, none⟩ = some (.int .i64 a0_2) := (blk_cell BK224.out 2).trans rfl
                have hcz20_3 : w3.cell? ⟨gb224, 3, none⟩ = some (.slice A0_3 l0_3.length c0_3) := (blk_cell BK224.out 3).trans rfl
                have hcz20_4 : w3.cell? ⟨gb224, 4, none⟩ = some (.string a0_4) := (blk_cell BK224.out 4).trans rfl
                have hfz20_0 := blk_frozen BK224.out 0
                have hfz20_1 := blk_frozen BK224.out 1
                have hfz20_2 := blk_frozen BK224.out 2
                have hfz20_3 := blk_frozen BK224.out 3
                have hfz20_4 := blk_frozen BK224.out 4
                go_wp2
                go_meet
                case rel => exact ⟨_, ((a0_2 != 2)), (by first | rfl | (simp; done) | (simp [*]; done)), H', ⟨by first | omega | exact Nat.le_refl _⟩, ⟨by (with_reducible repeat (first | refine blk_drewN ?_ _ | refine blk_drew ?_ | refine blk_alloc ?_ _)); exact BK224.out⟩, ⟨by repeat (first | (with_reducible first | exact HB.out | apply below_alloc | apply pw_below_drewN | apply below_drew1 | refine below_set ?_ GE224.out) | exact HB.out)⟩⟩
  case rest =>
    clear HC2
    try clear c1
    try clear p2
    try clear c3
    try clear c4
    try clear c4b0
    try clear c6
    try clear c6b0
    try clear c8
    try clear c8b0
    try clear c10
    try clear c10b0
    try clear c12
    try clear c12b0
    try clear c12b1
    try clear c13
    try clear c13b0
    try clear c13b1
    try clear c14
    try clear c14b0
    try clear c14b1
    try clear c18
    try clear c18b0
    try clear c18b1
    try clear hcz11_0
    try clear hcz11_1
    try clear hcz11_2
    try clear hcz11_3
    try clear hcz11_4
    try clear hcz15_0
    try clear hcz15_1
    try clear hcz15_2
    try clear hcz15_3
    try clear hcz15_4
    try clear hcz16_0
    try clear hcz16_1
    try clear hcz16_2
    try clear hcz16_3
    try clear hcz16_4
    try clear hcz17_0
    try clear hcz17_1
    try clear hcz17_2
    try clear hcz17_3
    try clear hcz17_4
    try clear hcz19_0
    try clear hcz19_1
    try clear hcz19_2
    try clear hcz19_3
    try clear hcz19_4
    try clear hcz20_0
    try clear hcz20_1
    try clear hcz20_2
    try clear hcz20_3
    try clear hcz20_4
    try clear hcz5_0
    try clear hcz5_1
    try clear hcz5_2
    try clear hcz5_3
    try clear hcz5_4
    try clear hcz7_0
    try clear hcz7_1
    try clear hcz7_2
    try clear hcz7_3
    try clear hcz7_4
    try clear hcz9_0
    try clear hcz9_1
    try clear hcz9_2
    try clear hcz9_3
    try clear hcz9_4
    try clear hfz11_0
    try clear hfz11_1
    try clear hfz11_2
    try clear hfz11_3
    try clear hfz11_4
    try clear hfz15_0
    try clear hfz15_1
    try clear hfz15_2
    try clear hfz15_3
    try clear hfz15_4
    try clear hfz16_0
    try clear hfz16_1
    try clear hfz16_2
    try clear hfz16_3
    try clear hfz16_4
    try clear hfz17_0
    try clear hfz17_1
    try clear hfz17_2
    try clear hfz17_3
    try clear hfz17_4
    try clear hfz19_0
    try clear hfz19_1
    try clear hfz19_2
    try clear hfz19_3
    try clear hfz19_4
    try clear hfz20_0
    try clear hfz20_1
    try clear hfz20_2
    try clear hfz20_3
    try clear hfz20_4
    try clear hfz5_0
    try clear hfz5_1
    try clear hfz5_2
    try clear hfz5_3
    try clear hfz5_4
    try clear hfz7_0
    try clear hfz7_1
    try clear hfz7_2
    try clear hfz7_3
    try clear hfz7_4
    try clear hfz9_0
    try clear hfz9_1
    try clear hfz9_2
    try clear hfz9_3
    try clear hfz9_4
    obtain ⟨kq, x47_1, rfl, HA, HJ1, BK224, HB⟩ := hcut
    cases kq with
    | zero => exact absurd HA.out (by simp [patch_Put.j0])
    | succ kj1 =>
      have H := HA.out
      clear HA
      simp only [patch_Put.j0] at H
      by_cases c21 : x47_1 = true
      · subst c21
        have H1 : (some ((⟨#[]⟩ : ByteArray), 1)) = some (r1, r2) := by rw [if_pos rfl] at H; exact H
        clear H
        have H := H1
        clear H1
        simp only [Option.some.injEq, Prod.mk.injEq] at H
        obtain ⟨rfl, rfl⟩ := H
        go_wp2
        go_ret2
        exact ⟨by first | rfl | (simp [errW_none, errW_some] <;> rfl) | (simp [*, errW_none, errW_some] <;> rfl), by repeat (first | (with_reducible first | exact HB.out | apply below_alloc | apply pw_below_drewN | apply below_drew1 | refine below_set ?_ GE224.out) | exact HB.out)⟩
      · replace c21 := Bool.eq_false_iff.mpr c21
        subst c21
        have H1 : (if a0_2 = 1 then (none) else ((crc_Put.f a0_0).bind fun t225 => ((crc_Put.f ((a0_1) % 4294967296)).bind fun t226 => (if t225.size + t226.size ≤ 9223372036854775807 then ((some (([(a0_2) % 256] : List Int) : List Int)).bind fun y227 => (if (t225 ++ t226).size + (strOfNums y227).size ≤ 9223372036854775807 then ((frame_Put.f (⟨#[68, 73, 79, 80]⟩ : ByteArray) 2 (([(⟨1, (t225 ++ t226) ++ (strOfNums y227)⟩ : S52), (⟨2, a0_4⟩ : S52)] : List (S52)))).bind fun bt233 => (some (bt233.1, bt233.2))) else (none))) else (none))))) = some (r1, r2) := by rw [if_neg (show ¬ (false = true) by decide)] at H; exact H
        clear H
        have H := H1
        clear H1
        by_cases c22 : a0_2 = 1
        · rw [if_pos c22] at H
          exact absurd H (by simp)
        · rw [if_neg c22] at H
          have c22b0 : (a0_2 == 1) = false := beq_eq_false_iff_ne.mpr c22
          have c22b1 : (a0_2 != 1) = true := bne_iff_ne.mpr c22
          replace H := Option.bind_eq_some_iff.mp H
          obtain ⟨t225, A230, H⟩ := H
          replace H : ((crc_Put.f ((a0_1) % 4294967296)).bind fun t226 => (if t225.size + t226.size ≤ 9223372036854775807 then ((some (([(a0_2) % 256] : List Int) : List Int)).bind fun y227 => (if (t225 ++ t226).size + (strOfNums y227).size ≤ 9223372036854775807 then ((frame_Put.f (⟨#[68, 73, 79, 80]⟩ : ByteArray) 2 (([(⟨1, (t225 ++ t226) ++ (strOfNums y227)⟩ : S52), (⟨2, a0_4⟩ : S52)] : List (S52)))).bind fun bt233 => (some (bt233.1, bt233.2))) else (none))) else (none))) = some (r1, r2) := H
          have A23 := Aside0.mk A230
          clear A230
          replace H := Option.bind_eq_some_iff.mp H
          obtain ⟨t226, A240, H⟩ := H
          replace H : (if t225.size + t226.size ≤ 9223372036854775807 then ((some (([(a0_2) % 256] : List Int) : List Int)).bind fun y227 => (if (t225 ++ t226).size + (strOfNums y227).size ≤ 9223372036854775807 then ((frame_Put.f (⟨#[68, 73, 79, 80]⟩ : ByteArray) 2 (([(⟨1, (t225 ++ t226) ++ (strOfNums y227)⟩ : S52), (⟨2, a0_4⟩ : S52)] : List (S52)))).bind fun bt233 => (some (bt233.1, bt233.2))) else (none))) else (none)) = some (r1, r2) := H
          have A24 := Aside0.mk A240
          clear A240
          by_cases c25 : t225.size + t226.size ≤ 9223372036854775807
          · rw [if_pos c25] at H
            have c25b0 := eq_true c25
            have c25b1 : decide (t225.size + t226.size ≤ 9223372036854775807) = true := decide_eq_true c25
            try have c25b2 : (9223372036854775807 < t225.size + t226.size) = False := eq_false (Nat.not_lt.2 c25)
            obtain ⟨y227, hy227⟩ : ∃ y_ : List Int, y_ = (([(a0_2) % 256] : List Int)) := ⟨_, rfl⟩
            replace H : (if (t225 ++ t226).size + (strOfNums y227).size ≤ 9223372036854775807 then ((frame_Put.f (⟨#[68, 73, 79, 80]⟩ : ByteArray) 2 (([(⟨1, (t225 ++ t226) ++ (strOfNums y227)⟩ : S52), (⟨2, a0_4⟩ : S52)] : List (S52)))).bind fun bt233 => (some (bt233.1, bt233.2))) else (none)) = some (r1, r2) := by first | (rw [hy227]; with_reducible exact H) | (have H2_ := (Option.bind_some _ _).symm.trans H; rw [hy227]; with_reducible exact H2_) | (have H2_ := (Option.bind_some _ _).symm.trans H; with_reducible exact H2_) | with_reducible exact H | (rw [hy227]; exact H) | exact H
            have Ny227 := Aside0.mk hy227
            clear hy227
            by_cases c26 : (t225 ++ t226).size + (strOfNums y227).size ≤ 9223372036854775807
            · rw [if_pos c26] at H
              have c26b0 := eq_true c26
              have c26b1 : decide ((t225 ++ t226).size + (strOfNums y227).size ≤ 9223372036854775807) = true := decide_eq_true c26
              try have c26b2 : (9223372036854775807 < (t225 ++ t226).size + (strOfNums y227).size) = False := eq_false (Nat.not_lt.2 c26)
              have c26b3 := c26b2
              simp only [ByteArray.size_append] at c26b3
              obtain ⟨y230, hy230⟩ : ∃ y_ : List (S52), y_ = (([(⟨1, (t225 ++ t226) ++ (strOfNums y227)⟩ : S52), (⟨2, a0_4⟩ : S52)] : List (S52))) := ⟨_, rfl⟩
              replace H : ((frame_Put.f (⟨#[68, 73, 79, 80]⟩ : ByteArray) 2 y230).bind fun bt233 => (some (bt233.1, bt233.2))) = some (r1, r2) := by first | (rw [hy230]; with_reducible exact H) | (have H2_ := (Option.bind_some _ _).symm.trans H; rw [hy230]; with_reducible exact H2_) | (have H2_ := (Option.bind_some _ _).symm.trans H; with_reducible exact H2_) | with_reducible exact H | (rw [hy230]; exact H) | exact H
              have Ny230 := Aside0.mk hy230
              clear hy230
              replace H := Option.bind_eq_some_iff.mp H
              obtain ⟨⟨t233, t234⟩, A270, H⟩ := H
              replace H : (some (t233, t234)) = some (r1, r2) := H
              have A27 := Aside0.mk A270
              clear A270
              simp only [Option.some.injEq, Prod.mk.injEq] at H
              obtain ⟨rfl, rfl⟩ := H
              have hcz28_0 : wc.cell? ⟨gb224, 0, none⟩ = some (.int .u32 a0_0) := (blk_cell BK224.out 0).trans rfl
              have hcz28_1 : wc.cell? ⟨gb224, 1, none⟩ = some (.int .i64 a0_1) := (blk_cell BK224.out 1).trans rfl
              have hcz28_2 : wc.cell? ⟨gb224, 2, none⟩ = some (.int .i64 a0_2) := (blk_cell BK224.out 2).trans rfl
              have hcz28_3 : wc.cell? ⟨gb224, 3, none⟩ = some (.slice A0_3 l0_3.length c0_3) := (blk_cell BK224.out 3).trans rfl
              have hcz28_4 : wc.cell? ⟨gb224, 4, none⟩ = some (.string a0_4) := (blk_cell BK224.out 4).trans rfl
              have hfz28_0 := blk_frozen BK224.out 0
              have hfz28_1 := blk_frozen BK224.out 1
              have hfz28_2 := blk_frozen BK224.out 2
              have hfz28_3 := blk_frozen BK224.out 3
              have hfz28_4 := blk_frozen BK224.out 4
              try go_wp2
              have n0_ := Aside0.mk (blk_drew BK224.out)
              have n1_ := Aside0.mk (below_drew1 HB.out)
              clear BK224
              clear HB
              have BK224 := n0_
              have HB := n1_
              clear n0_ n1_
              refine start_ (n := 15) (S := fun w' => w'.cell? ⟨gb224, 0, none⟩ = some (.int .u32 a0_0) ∧ w'.cell? ⟨gb224, 1, none⟩ = some (.int .i64 a0_1) ∧ w'.cell? ⟨gb224, 2, none⟩ = some (.int .i64 a0_2) ∧ w'.cell? ⟨gb224, 3, none⟩ = some (.slice A0_3 l0_3.length c0_3) ∧ w'.cell? ⟨gb224, 4, none⟩ = some (.string a0_4)) (ds := []) #[false, false, false, false, false, false, false, false, false, false, false, false, false, false, false] (by kernel_rfl) rfl rfl ⟨(blk_cell BK224.out 0).trans rfl, (blk_cell BK224.out 1).trans rfl, (blk_cell BK224.out 2).trans rfl, (blk_cell BK224.out 3).trans rfl, (blk_cell BK224.out 4).trans rfl⟩ (fun hHeld => ?_); refine with_tabW patch_Put.tab15 patch_Put.bits15 (fun HT_ HW_ => ?_)
              generalize wc.drew = w29 at BK224 HB hHeld ⊢
              refine pure_ (i := 0) (N := some 71) (v := ?_) (a' := ?_) #[true, false, false, false, false, false, false, false, false, false, false, false, false, false, false] rfl rfl (any_of HT_.out (by kernel_rfl)) (fun _ _ _ h => h) (Or.inl ⟨by rfl, ?_⟩) ?_ ?_
              rotate_left
              · intro w'
                go_simp
                with_reducible rfl
              rotate_left
              · simp only [Act.put, List.setIfInBounds_toArray, List.set_cons_zero, List.set_cons_succ, i64_w, i32_w]
                rfl
              refine pure_ (i := 3) (N := some 74) (v := ?_) (a' := ?_) #[true, false, false, true, false, false, false, false, false, false, false, false, false, false, false] rfl rfl (any_of HT_.out (by kernel_rfl)) (fun _ _ _ h => h) (Or.inl ⟨by rfl, ?_⟩) ?_ ?_
              rotate_left
              · intro w'
                go_simp
                with_reducible rfl
              rotate_left
              · simp only [Act.put, List.setIfInBounds_toArray, List.set_cons_zero, List.set_cons_succ, i64_w, i32_w]
                rfl
              refine pure_ (i := 8) (N := some 79) (v := ?_) (a' := ?_) #[true, false, false, true, false, false, false, false, true, false, false, false, false, false, false] rfl rfl (any_of HT_.out (by kernel_rfl)) (fun _ _ _ h => h) (Or.inl ⟨by rfl, ?_⟩) ?_ ?_
              rotate_left
              · intro w'
                go_simp
                with_reducible rfl
              rotate_left
              · simp only [Act.put, List.setIfInBounds_toArray, List.set_cons_zero, List.set_cons_succ, i64_w, i32_w]
                rfl
              refine take_ (i := 1) (N := some 72) (v := ?_) (a' := ?_) #[true, true, false, true, false, false, false, false, true, false, false, false, false, false, false] rfl rfl (take_ofW HT_.out HW_.out (by kernel_rfl)) (fun _ _ _ h => h) (Or.inl ⟨by rfl, ?_⟩) hHeld ?_ ?_
              rotate_left
              · rintro w' ⟨s0, s1, s2, s3, s4⟩
                go_simp
                with_reducible rfl
              rotate_left
              · simp only [Act.put, List.setIfInBounds_toArray, List.set_cons_zero, List.set_cons_succ, i64_w, i32_w]
                rfl
              refine take_ (i := 4) (N := some 75) (v := ?_) (a' := ?_) #[true, true, false, true, true, false, false, false, true, false, false, false, false, false, false] rfl rfl (take_ofW HT_.out HW_.out (by kernel_rfl)) (fun _ _ _ h => h) (Or.inl ⟨by rfl, ?_⟩) hHeld ?_ ?_
              rotate_left
              · rintro w' ⟨s0, s1, s2, s3, s4⟩
                go_simp
                with_reducible rfl
              rotate_left
              · simp only [Act.put, List.setIfInBounds_toArray, List.set_cons_zero, List.set_cons_succ, i64_w, i32_w]
                rfl
              refine pure_ (i := 5) (N := some 76) (v := ?_) (a' := ?_) #[true, true, false, true, true, true, false, false, true, false, false, false, false, false, false] rfl rfl (any_of HT_.out (by kernel_rfl)) (fun _ _ _ h => h) (Or.inl ⟨by rfl, ?_⟩) ?_ ?_
              rotate_left
              · intro w'
                go_simp
                with_reducible rfl
              rotate_left
              · simp only [Act.put, List.setIfInBounds_toArray, List.set_cons_zero, List.set_cons_succ, i64_w, i32_w]
                rfl
              refine take_ (i := 9) (N := some 80) (v := ?_) (a' := ?_) #[true, true, false, true, true, true, false, false, true, true, false, false, false, false, false] rfl rfl (take_ofW HT_.out HW_.out (by kernel_rfl)) (fun _ _ _ h => h) (Or.inl ⟨by rfl, ?_⟩) hHeld ?_ ?_
              rotate_left
              · rintro w' ⟨s0, s1, s2, s3, s4⟩
                go_simp
                with_reducible rfl
              rotate_left
              · simp only [Act.put, List.setIfInBounds_toArray, List.set_cons_zero, List.set_cons_succ, i64_w, i32_w]
                rfl
              refine pure_ (i := 10) (N := some 81) (v := ?_) (a' := ?_) #[true, true, false, true, true, true, false, false, true, true, true, false, false, false, false] rfl rfl (any_of HT_.out (by kernel_rfl)) (fun _ _ _ h => h) (Or.inl ⟨by rfl, ?_⟩) ?_ ?_
              rotate_left
              · intro w'
                go_simp
                with_reducible rfl
              rotate_left
              · simp only [Act.put, List.setIfInBounds_toArray, List.set_cons_zero, List.set_cons_succ, i64_w, i32_w]
                rfl
              refine join_ (σ := Value) 2 #[true, true, true, true, true, true, true, true, true, true, true, true, true, false, false] (fun s_ => [(73, .string t225), (77, .string t226), (82, s_), (83, .string (strOfNums y227)), (78, .string (t225 ++ t226))]) (fun s_ w' => (w'.cell? ⟨gb224, 0, none⟩ = some (.int .u32 a0_0) ∧ w'.cell? ⟨gb224, 1, none⟩ = some (.int .i64 a0_1) ∧ w'.cell? ⟨gb224, 2, none⟩ = some (.int .i64 a0_2) ∧ w'.cell? ⟨gb224, 3, none⟩ = some (.slice A0_3 l0_3.length c0_3) ∧ w'.cell? ⟨gb224, 4, none⟩ = some (.string a0_4)) ∧ (Kd.R (Kd.int .u8) 5 w' w.heap.size (fun _ => True) s_ y227) ∧ (w'.heap[gb224]? = some (.cells #[.int .u32 a0_0, .int .i64 a0_1, .int .i64 a0_2, .slice A0_3 l0_3.length c0_3, .string a0_4] 57 (0, 0))) ∧ (Below w.heap.size w w')) ?_ ?_
              rotate_left
              · intro hJ2_6_11_12
                refine join_ (σ := Value) 3 #[true, true, true, true, true, true, true, true, true, true, true, true, false, false, false] (fun s_ => [(73, .string t225), (77, .string t226), (82, s_), (78, .string (t225 ++ t226))]) (fun s_ w' => (w'.cell? ⟨gb224, 0, none⟩ = some (.int .u32 a0_0) ∧ w'.cell? ⟨gb224, 1, none⟩ = some (.int .i64 a0_1) ∧ w'.cell? ⟨gb224, 2, none⟩ = some (.int .i64 a0_2) ∧ w'.cell? ⟨gb224, 3, none⟩ = some (.slice A0_3 l0_3.length c0_3) ∧ w'.cell? ⟨gb224, 4, none⟩ = some (.string a0_4)) ∧ (Kd.R (Kd.int .u8) 5 w' w.heap.size (fun _ => True) s_ y227) ∧ (w'.heap[gb224]? = some (.cells #[.int .u32 a0_0, .int .i64 a0_1, .int .i64 a0_2, .slice A0_3 l0_3.length c0_3, .string a0_4] 57 (0, 0))) ∧ (Below w.heap.size w w')) ?_ ?_
                rotate_left
                · intro hJ2_6_11
                  refine join_ (σ := Value) 4 #[true, true, true, true, true, true, false, false, true, true, true, true, true, false, false] (fun s_ => [(73, .string t225), (82, s_), (83, .string (strOfNums y227))]) (fun s_ w' => (w'.cell? ⟨gb224, 0, none⟩ = some (.int .u32 a0_0) ∧ w'.cell? ⟨gb224, 1, none⟩ = some (.int .i64 a0_1) ∧ w'.cell? ⟨gb224, 2, none⟩ = some (.int .i64 a0_2) ∧ w'.cell? ⟨gb224, 3, none⟩ = some (.slice A0_3 l0_3.length c0_3) ∧ w'.cell? ⟨gb224, 4, none⟩ = some (.string a0_4)) ∧ (Kd.R (Kd.int .u8) 5 w' w.heap.size (fun _ => True) s_ y227) ∧ (w'.heap[gb224]? = some (.cells #[.int .u32 a0_0, .int .i64 a0_1, .int .i64 a0_2, .slice A0_3 l0_3.length c0_3, .string a0_4] 57 (0, 0))) ∧ (Below w.heap.size w w')) ?_ ?_
                  rotate_left
                  · intro hJ2_11_12
                    refine join_ (σ := Unit) 4 #[true, true, true, true, true, true, true, true, true, true, true, false, false, false, false] (fun s_ => [(73, .string t225), (77, .string t226), (78, .string (t225 ++ t226))]) (fun s_ w' => (w'.cell? ⟨gb224, 0, none⟩ = some (.int .u32 a0_0) ∧ w'.cell? ⟨gb224, 1, none⟩ = some (.int .i64 a0_1) ∧ w'.cell? ⟨gb224, 2, none⟩ = some (.int .i64 a0_2) ∧ w'.cell? ⟨gb224, 3, none⟩ = some (.slice A0_3 l0_3.length c0_3) ∧ w'.cell? ⟨gb224, 4, none⟩ = some (.string a0_4)) ∧ (w'.heap[gb224]? = some (.cells #[.int .u32 a0_0, .int .i64 a0_1, .int .i64 a0_2, .slice A0_3 l0_3.length c0_3, .string a0_4] 57 (0, 0))) ∧ (Below w.heap.size w w')) ?_ ?_
                    rotate_left
                    · intro hJ2_6
                      refine join_ (σ := Value) 5 #[true, true, true, true, true, true, false, false, true, true, true, true, false, false, false] (fun s_ => [(73, .string t225), (82, s_)]) (fun s_ w' => (w'.cell? ⟨gb224, 0, none⟩ = some (.int .u32 a0_0) ∧ w'.cell? ⟨gb224, 1, none⟩ = some (.int .i64 a0_1) ∧ w'.cell? ⟨gb224, 2, none⟩ = some (.int .i64 a0_2) ∧ w'.cell? ⟨gb224, 3, none⟩ = some (.slice A0_3 l0_3.length c0_3) ∧ w'.cell? ⟨gb224, 4, none⟩ = some (.string a0_4)) ∧ (Kd.R (Kd.int .u8) 5 w' w.heap.size (fun _ => True) s_ y227) ∧ (w'.heap[gb224]? = some (.cells #[.int .u32 a0_0, .int .i64 a0_1, .int .i64 a0_2, .slice A0_3 l0_3.length c0_3, .string a0_4] 57 (0, 0))) ∧ (Below w.heap.size w w')) ?_ ?_
                      rotate_left
                      · intro hJ2_11
                        refine join_ (σ := Value) 5 #[true, true, false, true, true, true, false, false, true, true, true, true, true, false, false] (fun s_ => [(82, s_), (83, .string (strOfNums y227))]) (fun s_ w' => (w'.cell? ⟨gb224, 0, none⟩ = some (.int .u32 a0_0) ∧ w'.cell? ⟨gb224, 1, none⟩ = some (.int .i64 a0_1) ∧ w'.cell? ⟨gb224, 2, none⟩ = some (.int .i64 a0_2) ∧ w'.cell? ⟨gb224, 3, none⟩ = some (.slice A0_3 l0_3.length c0_3) ∧ w'.cell? ⟨gb224, 4, none⟩ = some (.string a0_4)) ∧ (Kd.R (Kd.int .u8) 5 w' w.heap.size (fun _ => True) s_ y227) ∧ (w'.heap[gb224]? = some (.cells #[.int .u32 a0_0, .int .i64 a0_1, .int .i64 a0_2, .slice A0_3 l0_3.length c0_3, .string a0_4] 57 (0, 0))) ∧ (Below w.heap.size w w')) ?_ ?_
                        rotate_left
                        · intro hJ11_12
                          refine join_ (σ := Unit) 6 #[true, true, true, true, true, true, false, false, true, true, true, false, false, false, false] (fun s_ => [(73, .string t225)]) (fun s_ w' => (w'.cell? ⟨gb224, 0, none⟩ = some (.int .u32 a0_0) ∧ w'.cell? ⟨gb224, 1, none⟩ = some (.int .i64 a0_1) ∧ w'.cell? ⟨gb224, 2, none⟩ = some (.int .i64 a0_2) ∧ w'.cell? ⟨gb224, 3, none⟩ = some (.slice A0_3 l0_3.length c0_3) ∧ w'.cell? ⟨gb224, 4, none⟩ = some (.string a0_4)) ∧ (w'.heap[gb224]? = some (.cells #[.int .u32 a0_0, .int .i64 a0_1, .int .i64 a0_2, .slice A0_3 l0_3.length c0_3, .string a0_4] 57 (0, 0))) ∧ (Below w.heap.size w w')) ?_ ?_
                          rotate_left
                          · intro hJ2
                            refine join_ (σ := Value) 6 #[true, true, false, true, true, true, false, false, true, true, true, true, false, false, false] (fun s_ => [(82, s_)]) (fun s_ w' => (w'.cell? ⟨gb224, 0, none⟩ = some (.int .u32 a0_0) ∧ w'.cell? ⟨gb224, 1, none⟩ = some (.int .i64 a0_1) ∧ w'.cell? ⟨gb224, 2, none⟩ = some (.int .i64 a0_2) ∧ w'.cell? ⟨gb224, 3, none⟩ = some (.slice A0_3 l0_3.length c0_3) ∧ w'.cell? ⟨gb224, 4, none⟩ = some (.string a0_4)) ∧ (Kd.R (Kd.int .u8) 5 w' w.heap.size (fun _ => True) s_ y227) ∧ (w'.heap[gb224]? = some (.cells #[.int .u32 a0_0, .int .i64 a0_1, .int .i64 a0_2, .slice A0_3 l0_3.length c0_3, .string a0_4] 57 (0, 0))) ∧ (Below w.heap.size w w')) ?_ ?_
                            rotate_left
                            · intro hJ11
                              refine two_ (i := 2) (j := 11) (Ni := some 73) (Nj := some 82) #[true, true, true, true, true, true, false, false, true, true, true, false, false, false, false] #[true, true, false, true, true, true, false, false, true, true, true, true, false, false, false] rfl rfl rfl rfl (two_of HT_.out (by kernel_rfl)) (by decide) (by decide) (fun K hK => ?_) (fun K hK => ?_)
                              · skip
                                refine goes_ Try.func24 (by kernel_rfl) rfl #[.int .u32 a0_0] (by rfl) rfl rfl (by (try simp only [List.map_toArray, List.map_cons, List.map_nil]); first | done | rfl | (simp only [List.length_drop, List.length_take]; rfl)) ?_
                                with_reducible refine (crc_Put.calls a0_0 t225 _ A23.out).mono ?_
                                rintro e w30 ⟨rfl, hb⟩
                                refine ⟨_, rfl, ?_⟩
                                have n0_ := Aside0.mk (blk_below (g := gb224) (o := .cells #[.int .u32 a0_0, .int .i64 a0_1, .int .i64 a0_2, .slice A0_3 l0_3.length c0_3, .string a0_4] 57 (0, 0)) (by (with_reducible repeat (first | refine blk_drewN ?_ _ | refine blk_drew ?_ | refine blk_alloc ?_ _)); exact BK224.out) hb)
                                have n1_ := Aside0.mk (below_step (by repeat (first | (with_reducible first | exact HB.out | apply below_alloc | apply pw_below_drewN | apply below_drew1 | refine below_set ?_ GE224.out) | exact HB.out)) hb)
                                clear BK224
                                clear HB
                                have BK224 := n0_
                                have HB := n1_
                                clear n0_ n1_
                                (try clear hb)
                                (try clear hb2)
                                (try clear hk)
                                (try clear hi)
                                refine hK.out _ _ ⟨(blk_cell BK224.out 0).trans rfl, (blk_cell BK224.out 1).trans rfl, (blk_cell BK224.out 2).trans rfl, (blk_cell BK224.out 3).trans rfl, (blk_cell BK224.out 4).trans rfl⟩ (fun hHeld => ?_)
                                clear hK K
                                refine norm_ (a' := ?_) ?_ ?_
                                rotate_left
                                · show Act.put _ (some 73) _ = _
                                  simp only [Act.put, List.setIfInBounds_toArray, List.set_cons_zero, List.set_cons_succ, i64_w, i32_w]
                                  rfl
                                exact norm_ (by first | (simp only [putAll, Act.put, List.setIfInBounds_toArray, List.set_cons_zero, List.set_cons_succ]; done) | (simp only [putAll, Act.put, List.setIfInBounds_toArray, List.set_cons_zero, List.set_cons_succ]; rfl)) (hJ2 () _ ⟨hHeld, (by (with_reducible repeat (first | refine blk_drewN ?_ _ | refine blk_drew ?_ | refine blk_alloc ?_ _)); exact BK224.out), (by repeat (first | (with_reducible first | exact HB.out | apply below_alloc | apply pw_below_drewN | apply below_drew1 | refine below_set ?_ GE224.out) | exact HB.out))⟩)
                              · skip
                                refine Kd.R_lit_step (Kd.int .u8) _ 5 ?hg (N := 82) ?hd (xs := ([(a0_2) % 256] : List Int)) (inner := [.int .u8 ((a0_2) % 256)]) (ok := fun _ => True) (okp := fun _ => True) ?hr ?hp (fun _ hk => hk) trivial (Below.refl _ _) (Nat.le_refl _) (by simp) ?_; (case hd => rfl); (case hg => rfl); (case hr => first | (go_simp; done) | (go_simp; rfl)); (case hp => exact (Reps.one (show Kd.M (Kd.int .u8) _ _ _ ((a0_2) % 256) [.int .u8 ((a0_2) % 256)] from rfl) (Reps.none _ _)))
                                intro v228 w30 ho31 hb hg_ hnew_
                                clear hg_ hnew_
                                (first | rw [← Ny227.out] at ho31 | (simp only [Int.reduceToNat] at ho31; rw [← Ny227.out] at ho31))
                                have n0_ := Aside0.mk (Kd.R_lower ho31 (below_size (by repeat (first | (with_reducible first | exact HB.out | apply below_alloc | apply pw_below_drewN | apply below_drew1 | refine below_set ?_ GE224.out) | exact HB.out))))
                                have n1_ := Aside0.mk (blk_below (g := gb224) (o := .cells #[.int .u32 a0_0, .int .i64 a0_1, .int .i64 a0_2, .slice A0_3 l0_3.length c0_3, .string a0_4] 57 (0, 0)) (by (with_reducible repeat (first | refine blk_drewN ?_ _ | refine blk_drew ?_ | refine blk_alloc ?_ _)); exact BK224.out) hb)
                                have n2_ := Aside0.mk (below_step (by repeat (first | (with_reducible first | exact HB.out | apply below_alloc | apply pw_below_drewN | apply below_drew1 | refine below_set ?_ GE224.out) | exact HB.out)) hb)
                                clear BK224
                                clear HB
                                have HO229 := n0_
                                have BK224 := n1_
                                have HB := n2_
                                clear n0_ n1_ n2_
                                clear hb ho31
                                refine hK.out _ _ ⟨(blk_cell BK224.out 0).trans rfl, (blk_cell BK224.out 1).trans rfl, (blk_cell BK224.out 2).trans rfl, (blk_cell BK224.out 3).trans rfl, (blk_cell BK224.out 4).trans rfl⟩ (fun hHeld => ?_)
                                clear hK K
                                refine norm_ (a' := ?_) ?_ ?_
                                rotate_left
                                · show Act.put _ (some 82) _ = _
                                  simp only [Act.put, List.setIfInBounds_toArray, List.set_cons_zero, List.set_cons_succ, i64_w, i32_w]
                                  rfl
                                exact norm_ (by first | (simp only [putAll, Act.put, List.setIfInBounds_toArray, List.set_cons_zero, List.set_cons_succ]; done) | (simp only [putAll, Act.put, List.setIfInBounds_toArray, List.set_cons_zero, List.set_cons_succ]; rfl)) (hJ11 (v228) _ ⟨hHeld, (by (with_reducible repeat (first | apply Kd.R_alloc | apply Kd.R_drewN | apply Kd.R_drew)); exact HO229.out), (by (with_reducible repeat (first | refine blk_drewN ?_ _ | refine blk_drew ?_ | refine blk_alloc ?_ _)); exact BK224.out), (by repeat (first | (with_reducible first | exact HB.out | apply below_alloc | apply pw_below_drewN | apply below_drew1 | refine below_set ?_ GE224.out) | exact HB.out))⟩)
                            · skip
                              rintro v228 w32 ⟨hS_, h0_, h1_, h2_⟩
                              have n0_ : Aside0 (Kd.R (Kd.int .u8) 5 w32 w.heap.size (fun _ => True) v228 y227) := ⟨h0_⟩
                              have n1_ : Aside0 (w32.heap[gb224]? = some (.cells #[.int .u32 a0_0, .int .i64 a0_1, .int .i64 a0_2, .slice A0_3 l0_3.length c0_3, .string a0_4] 57 (0, 0))) := ⟨h1_⟩
                              have n2_ : Aside0 (Below w.heap.size w w32) := ⟨h2_⟩
                              clear BK224
                              clear HB
                              clear h0_ h1_ h2_
                              have HO229 := n0_
                              have BK224 := n1_
                              have HB := n2_
                              clear n0_ n1_ n2_
                              have hHeld : w32.cell? ⟨gb224, 0, none⟩ = some (.int .u32 a0_0) ∧ w32.cell? ⟨gb224, 1, none⟩ = some (.int .i64 a0_1) ∧ w32.cell? ⟨gb224, 2, none⟩ = some (.int .i64 a0_2) ∧ w32.cell? ⟨gb224, 3, none⟩ = some (.slice A0_3 l0_3.length c0_3) ∧ w32.cell? ⟨gb224, 4, none⟩ = some (.string a0_4) := hS_
                              refine norm_ (a' := ?_) ?_ ?_
                              rotate_left
                              · simp only [putAll, Act.put, List.setIfInBounds_toArray, List.set_cons_zero, List.set_cons_succ]
                                rfl
                              refine two_ (i := 2) (j := 12) (Ni := some 73) (Nj := some 83) #[true, true, true, true, true, true, false, false, true, true, true, true, false, false, false] #[true, true, false, true, true, true, false, false, true, true, true, true, true, false, false] rfl rfl rfl rfl (two_of HT_.out (by kernel_rfl)) (by decide) (by decide) (fun K hK => ?_) (fun K hK => ?_)
                              · skip
                                refine goes_ Try.func24 (by kernel_rfl) rfl #[.int .u32 a0_0] (by rfl) rfl rfl (by (try simp only [List.map_toArray, List.map_cons, List.map_nil]); first | done | rfl | (simp only [List.length_drop, List.length_take]; rfl)) ?_
                                with_reducible refine (crc_Put.calls a0_0 t225 _ A23.out).mono ?_
                                rintro e w33 ⟨rfl, hb⟩
                                refine ⟨_, rfl, ?_⟩
                                have n0_ := Aside0.mk (Kd.R_below (by (with_reducible repeat (first | apply Kd.R_alloc | apply Kd.R_drewN | apply Kd.R_drew)); exact HO229.out) hb)
                                have n1_ := Aside0.mk (blk_below (g := gb224) (o := .cells #[.int .u32 a0_0, .int .i64 a0_1, .int .i64 a0_2, .slice A0_3 l0_3.length c0_3, .string a0_4] 57 (0, 0)) (by (with_reducible repeat (first | refine blk_drewN ?_ _ | refine blk_drew ?_ | refine blk_alloc ?_ _)); exact BK224.out) hb)
                                have n2_ := Aside0.mk (below_step (by repeat (first | (with_reducible first | exact HB.out | apply below_alloc | apply pw_below_drewN | apply below_drew1 | refine below_set ?_ GE224.out) | exact HB.out)) hb)
                                clear HO229
                                clear BK224
                                clear HB
                                have HO229 := n0_
                                have BK224 := n1_
                                have HB := n2_
                                clear n0_ n1_ n2_
                                (try clear hb)
                                (try clear hb2)
                                (try clear hk)
                                (try clear hi)
                                refine hK.out _ _ ⟨(blk_cell BK224.out 0).trans rfl, (blk_cell BK224.out 1).trans rfl, (blk_cell BK224.out 2).trans rfl, (blk_cell BK224.out 3).trans rfl, (blk_cell BK224.out 4).trans rfl⟩ (fun hHeld => ?_)
                                clear hK K
                                refine norm_ (a' := ?_) ?_ ?_
                                rotate_left
                                · show Act.put _ (some 73) _ = _
                                  simp only [Act.put, List.setIfInBounds_toArray, List.set_cons_zero, List.set_cons_succ, i64_w, i32_w]
                                  rfl
                                exact norm_ (by first | (simp only [putAll, Act.put, List.setIfInBounds_toArray, List.set_cons_zero, List.set_cons_succ]; done) | (simp only [putAll, Act.put, List.setIfInBounds_toArray, List.set_cons_zero, List.set_cons_succ]; rfl)) (hJ2_11 (v228) _ ⟨hHeld, (by (with_reducible repeat (first | apply Kd.R_alloc | apply Kd.R_drewN | apply Kd.R_drew)); exact HO229.out), (by (with_reducible repeat (first | refine blk_drewN ?_ _ | refine blk_drew ?_ | refine blk_alloc ?_ _)); exact BK224.out), (by repeat (first | (with_reducible first | exact HB.out | apply below_alloc | apply pw_below_drewN | apply below_drew1 | refine below_set ?_ GE224.out) | exact HB.out))⟩)
                              · skip
                                have hcv33 := own_string (P := Try.prog) Try.underlying72 Try.underlying5 Try.underlying9 (Kd.own_of_R HO229.out)
                                refine value_ (w1 := ?_) (v := ?_) (by rfl) rfl ?_ ?_
                                rotate_left 2
                                · go_simp
                                  constructor
                                  · rfl
                                  · rfl
                                clear hcv33
                                refine hK.out _ _ ⟨(blk_cell BK224.out 0).trans rfl, (blk_cell BK224.out 1).trans rfl, (blk_cell BK224.out 2).trans rfl, (blk_cell BK224.out 3).trans rfl, (blk_cell BK224.out 4).trans rfl⟩ (fun hHeld => ?_)
                                clear hK K
                                refine norm_ (a' := ?_) ?_ ?_
                                rotate_left
                                · show Act.put _ (some 83) _ = _
                                  simp only [Act.put, List.setIfInBounds_toArray, List.set_cons_zero, List.set_cons_succ, i64_w, i32_w]
                                  rfl
                                exact norm_ (by first | (simp only [putAll, Act.put, List.setIfInBounds_toArray, List.set_cons_zero, List.set_cons_succ]; done) | (simp only [putAll, Act.put, List.setIfInBounds_toArray, List.set_cons_zero, List.set_cons_succ]; rfl)) (hJ11_12 (v228) _ ⟨hHeld, (by (with_reducible repeat (first | apply Kd.R_alloc | apply Kd.R_drewN | apply Kd.R_drew)); exact HO229.out), (by (with_reducible repeat (first | refine blk_drewN ?_ _ | refine blk_drew ?_ | refine blk_alloc ?_ _)); exact BK224.out), (by repeat (first | (with_reducible first | exact HB.out | apply below_alloc | apply pw_below_drewN | apply below_drew1 | refine below_set ?_ GE224.out) | exact HB.out))⟩)
                          · skip
                            rintro _ w31 ⟨hS_, h0_, h1_⟩
                            have n0_ : Aside0 (w31.heap[gb224]? = some (.cells #[.int .u32 a0_0, .int .i64 a0_1, .int .i64 a0_2, .slice A0_3 l0_3.length c0_3, .string a0_4] 57 (0, 0))) := ⟨h0_⟩
                            have n1_ : Aside0 (Below w.heap.size w w31) := ⟨h1_⟩
                            clear BK224
                            clear HB
                            clear h0_ h1_
                            have BK224 := n0_
                            have HB := n1_
                            clear n0_ n1_
                            have hHeld : w31.cell? ⟨gb224, 0, none⟩ = some (.int .u32 a0_0) ∧ w31.cell? ⟨gb224, 1, none⟩ = some (.int .i64 a0_1) ∧ w31.cell? ⟨gb224, 2, none⟩ = some (.int .i64 a0_2) ∧ w31.cell? ⟨gb224, 3, none⟩ = some (.slice A0_3 l0_3.length c0_3) ∧ w31.cell? ⟨gb224, 4, none⟩ = some (.string a0_4) := hS_
                            refine norm_ (a' := ?_) ?_ ?_
                            rotate_left
                            · simp only [putAll, Act.put, List.setIfInBounds_toArray, List.set_cons_zero, List.set_cons_succ]
                              rfl
                            refine two_ (i := 6) (j := 11) (Ni := some 77) (Nj := some 82) #[true, true, true, true, true, true, true, false, true, true, true, false, false, false, false] #[true, true, true, true, true, true, false, false, true, true, true, true, false, false, false] rfl rfl rfl rfl (two_of HT_.out (by kernel_rfl)) (by decide) (by decide) (fun K hK => ?_) (fun K hK => ?_)
                            · skip
                              refine goes_ Try.func24 (by kernel_rfl) rfl #[.int .u32 ((a0_1) % 4294967296)] (by rfl) rfl rfl (by (try simp only [List.map_toArray, List.map_cons, List.map_nil]); first | done | rfl | (simp only [List.length_drop, List.length_take]; rfl)) ?_
                              with_reducible refine (crc_Put.calls ((a0_1) % 4294967296) t226 _ A24.out).mono ?_
                              rintro e w32 ⟨rfl, hb⟩
                              refine ⟨_, rfl, ?_⟩
                              have n0_ := Aside0.mk (blk_below (g := gb224) (o := .cells #[.int .u32 a0_0, .int .i64 a0_1, .int .i64 a0_2, .slice A0_3 l0_3.length c0_3, .string a0_4] 57 (0, 0)) (by (with_reducible repeat (first | refine blk_drewN ?_ _ | refine blk_drew ?_ | refine blk_alloc ?_ _)); exact BK224.out) hb)
                              have n1_ := Aside0.mk (below_step (by repeat (first | (with_reducible first | exact HB.out | apply below_alloc | apply pw_below_drewN | apply below_drew1 | refine below_set ?_ GE224.out) | exact HB.out)) hb)
                              clear BK224
                              clear HB
                              have BK224 := n0_
                              have HB := n1_
                              clear n0_ n1_
                              (try clear hb)
                              (try clear hb2)
                              (try clear hk)
                              (try clear hi)
                              refine hK.out _ _ ⟨(blk_cell BK224.out 0).trans rfl, (blk_cell BK224.out 1).trans rfl, (blk_cell BK224.out 2).trans rfl, (blk_cell BK224.out 3).trans rfl, (blk_cell BK224.out 4).trans rfl⟩ (fun hHeld => ?_)
                              clear hK K
                              refine norm_ (a' := ?_) ?_ ?_
                              rotate_left
                              · show Act.put _ (some 77) _ = _
                                simp only [Act.put, List.setIfInBounds_toArray, List.set_cons_zero, List.set_cons_succ, i64_w, i32_w]
                                rfl
                              refine pure_ (i := 7) (N := some 78) (v := ?_) (a' := ?_) #[true, true, true, true, true, true, true, true, true, true, true, false, false, false, false] rfl rfl (any_of HT_.out (by kernel_rfl)) (fun _ _ _ h => h) (Or.inl ⟨by rfl, ?_⟩) ?_ ?_
                              rotate_left
                              · intro w'
                                go_simp
                                with_reducible rfl
                              rotate_left
                              · simp only [Act.put, List.setIfInBounds_toArray, List.set_cons_zero, List.set_cons_succ, i64_w, i32_w]
                                rfl
                              exact norm_ (by first | (simp only [putAll, Act.put, List.setIfInBounds_toArray, List.set_cons_zero, List.set_cons_succ]; done) | (simp only [putAll, Act.put, List.setIfInBounds_toArray, List.set_cons_zero, List.set_cons_succ]; rfl)) (hJ2_6 () _ ⟨hHeld, (by (with_reducible repeat (first | refine blk_drewN ?_ _ | refine blk_drew ?_ | refine blk_alloc ?_ _)); exact BK224.out), (by repeat (first | (with_reducible first | exact HB.out | apply below_alloc | apply pw_below_drewN | apply below_drew1 | refine below_set ?_ GE224.out) | exact HB.out))⟩)
                            · skip
                              refine Kd.R_lit_step (Kd.int .u8) _ 5 ?hg (N := 82) ?hd (xs := ([(a0_2) % 256] : List Int)) (inner := [.int .u8 ((a0_2) % 256)]) (ok := fun _ => True) (okp := fun _ => True) ?hr ?hp (fun _ hk => hk) trivial (Below.refl _ _) (Nat.le_refl _) (by simp) ?_; (case hd => rfl); (case hg => rfl); (case hr => first | (go_simp; done) | (go_simp; rfl)); (case hp => exact (Reps.one (show Kd.M (Kd.int .u8) _ _ _ ((a0_2) % 256) [.int .u8 ((a0_2) % 256)] from rfl) (Reps.none _ _)))
                              intro v228 w32 ho33 hb hg_ hnew_
                              clear hg_ hnew_
                              (first | rw [← Ny227.out] at ho33 | (simp only [Int.reduceToNat] at ho33; rw [← Ny227.out] at ho33))
                              have n0_ := Aside0.mk (Kd.R_lower ho33 (below_size (by repeat (first | (with_reducible first | exact HB.out | apply below_alloc | apply pw_below_drewN | apply below_drew1 | refine below_set ?_ GE224.out) | exact HB.out))))
                              have n1_ := Aside0.mk (blk_below (g := gb224) (o := .cells #[.int .u32 a0_0, .int .i64 a0_1, .int .i64 a0_2, .slice A0_3 l0_3.length c0_3, .string a0_4] 57 (0, 0)) (by (with_reducible repeat (first | refine blk_drewN ?_ _ | refine blk_drew ?_ | refine blk_alloc ?_ _)); exact BK224.out) hb)
                              have n2_ := Aside0.mk (below_step (by repeat (first | (with_reducible first | exact HB.out | apply below_alloc | apply pw_below_drewN | apply below_drew1 | refine below_set ?_ GE224.out) | exact HB.out)) hb)
                              clear BK224
                              clear HB
                              have HO229 := n0_
                              have BK224 := n1_
                              have HB := n2_
                              clear n0_ n1_ n2_
                              clear hb ho33
                              refine hK.out _ _ ⟨(blk_cell BK224.out 0).trans rfl, (blk_cell BK224.out 1).trans rfl, (blk_cell BK224.out 2).trans rfl, (blk_cell BK224.out 3).trans rfl, (blk_cell BK224.out 4).trans rfl⟩ (fun hHeld => ?_)
                              clear hK K
                              refine norm_ (a' := ?_) ?_ ?_
                              rotate_left
                              · show Act.put _ (some 82) _ = _
                                simp only [Act.put, List.setIfInBounds_toArray, List.set_cons_zero, List.set_cons_succ, i64_w, i32_w]
                                rfl
                              exact norm_ (by first | (simp only [putAll, Act.put, List.setIfInBounds_toArray, List.set_cons_zero, List.set_cons_succ]; done) | (simp only [putAll, Act.put, List.setIfInBounds_toArray, List.set_cons_zero, List.set_cons_succ]; rfl)) (hJ2_11 (v228) _ ⟨hHeld, (by (with_reducible repeat (first | apply Kd.R_alloc | apply Kd.R_drewN | apply Kd.R_drew)); exact HO229.out), (by (with_reducible repeat (first | refine blk_drewN ?_ _ | refine blk_drew ?_ | refine blk_alloc ?_ _)); exact BK224.out), (by repeat (first | (with_reducible first | exact HB.out | apply below_alloc | apply pw_below_drewN | apply below_drew1 | refine below_set ?_ GE224.out) | exact HB.out))⟩)
                        · skip
                          rintro v228 w33 ⟨hS_, h0_, h1_, h2_⟩
                          have n0_ : Aside0 (Kd.R (Kd.int .u8) 5 w33 w.heap.size (fun _ => True) v228 y227) := ⟨h0_⟩
                          have n1_ : Aside0 (w33.heap[gb224]? = some (.cells #[.int .u32 a0_0, .int .i64 a0_1, .int .i64 a0_2, .slice A0_3 l0_3.length c0_3, .string a0_4] 57 (0, 0))) := ⟨h1_⟩
                          have n2_ : Aside0 (Below w.heap.size w w33) := ⟨h2_⟩
                          clear BK224
                          clear HB
                          clear h0_ h1_ h2_
                          have HO229 := n0_
                          have BK224 := n1_
                          have HB := n2_
                          clear n0_ n1_ n2_
                          have hHeld : w33.cell? ⟨gb224, 0, none⟩ = some (.int .u32 a0_0) ∧ w33.cell? ⟨gb224, 1, none⟩ = some (.int .i64 a0_1) ∧ w33.cell? ⟨gb224, 2, none⟩ = some (.int .i64 a0_2) ∧ w33.cell? ⟨gb224, 3, none⟩ = some (.slice A0_3 l0_3.length c0_3) ∧ w33.cell? ⟨gb224, 4, none⟩ = some (.string a0_4) := hS_
                          refine norm_ (a' := ?_) ?_ ?_
                          rotate_left
                          · simp only [putAll, Act.put, List.setIfInBounds_toArray, List.set_cons_zero, List.set_cons_succ]
                            rfl
                          refine one_ (i := 2) (N := some 73) #[true, true, true, true, true, true, false, false, true, true, true, true, true, false, false] rfl rfl (one_of HT_.out (by kernel_rfl)) (by decide) (fun K hK => ?_)
                          refine goes_ Try.func24 (by kernel_rfl) rfl #[.int .u32 a0_0] (by rfl) rfl rfl (by (try simp only [List.map_toArray, List.map_cons, List.map_nil]); first | done | rfl | (simp only [List.length_drop, List.length_take]; rfl)) ?_
                          with_reducible refine (crc_Put.calls a0_0 t225 _ A23.out).mono ?_
                          rintro e w34 ⟨rfl, hb⟩
                          refine ⟨_, rfl, ?_⟩
                          have n0_ := Aside0.mk (Kd.R_below (by (with_reducible repeat (first | apply Kd.R_alloc | apply Kd.R_drewN | apply Kd.R_drew)); exact HO229.out) hb)
                          have n1_ := Aside0.mk (blk_below (g := gb224) (o := .cells #[.int .u32 a0_0, .int .i64 a0_1, .int .i64 a0_2, .slice A0_3 l0_3.length c0_3, .string a0_4] 57 (0, 0)) (by (with_reducible repeat (first | refine blk_drewN ?_ _ | refine blk_drew ?_ | refine blk_alloc ?_ _)); exact BK224.out) hb)
                          have n2_ := Aside0.mk (below_step (by repeat (first | (with_reducible first | exact HB.out | apply below_alloc | apply pw_below_drewN | apply below_drew1 | refine below_set ?_ GE224.out) | exact HB.out)) hb)
                          clear HO229
                          clear BK224
                          clear HB
                          have HO229 := n0_
                          have BK224 := n1_
                          have HB := n2_
                          clear n0_ n1_ n2_
                          (try clear hb)
                          (try clear hb2)
                          (try clear hk)
                          (try clear hi)
                          refine hK.out _ _ ⟨(blk_cell BK224.out 0).trans rfl, (blk_cell BK224.out 1).trans rfl, (blk_cell BK224.out 2).trans rfl, (blk_cell BK224.out 3).trans rfl, (blk_cell BK224.out 4).trans rfl⟩ (fun hHeld => ?_)
                          clear hK K
                          refine norm_ (a' := ?_) ?_ ?_
                          rotate_left
                          · show Act.put _ (some 73) _ = _
                            simp only [Act.put, List.setIfInBounds_toArray, List.set_cons_zero, List.set_cons_succ, i64_w, i32_w]
                            rfl
                          exact norm_ (by first | (simp only [putAll, Act.put, List.setIfInBounds_toArray, List.set_cons_zero, List.set_cons_succ]; done) | (simp only [putAll, Act.put, List.setIfInBounds_toArray, List.set_cons_zero, List.set_cons_succ]; rfl)) (hJ2_11_12 (v228) _ ⟨hHeld, (by (with_reducible repeat (first | apply Kd.R_alloc | apply Kd.R_drewN | apply Kd.R_drew)); exact HO229.out), (by (with_reducible repeat (first | refine blk_drewN ?_ _ | refine blk_drew ?_ | refine blk_alloc ?_ _)); exact BK224.out), (by repeat (first | (with_reducible first | exact HB.out | apply below_alloc | apply pw_below_drewN | apply below_drew1 | refine below_set ?_ GE224.out) | exact HB.out))⟩)
                      · skip
                        rintro v228 w33 ⟨hS_, h0_, h1_, h2_⟩
                        have n0_ : Aside0 (Kd.R (Kd.int .u8) 5 w33 w.heap.size (fun _ => True) v228 y227) := ⟨h0_⟩
                        have n1_ : Aside0 (w33.heap[gb224]? = some (.cells #[.int .u32 a0_0, .int .i64 a0_1, .int .i64 a0_2, .slice A0_3 l0_3.length c0_3, .string a0_4] 57 (0, 0))) := ⟨h1_⟩
                        have n2_ : Aside0 (Below w.heap.size w w33) := ⟨h2_⟩
                        clear BK224
                        clear HB
                        clear h0_ h1_ h2_
                        have HO229 := n0_
                        have BK224 := n1_
                        have HB := n2_
                        clear n0_ n1_ n2_
                        have hHeld : w33.cell? ⟨gb224, 0, none⟩ = some (.int .u32 a0_0) ∧ w33.cell? ⟨gb224, 1, none⟩ = some (.int .i64 a0_1) ∧ w33.cell? ⟨gb224, 2, none⟩ = some (.int .i64 a0_2) ∧ w33.cell? ⟨gb224, 3, none⟩ = some (.slice A0_3 l0_3.length c0_3) ∧ w33.cell? ⟨gb224, 4, none⟩ = some (.string a0_4) := hS_
                        refine norm_ (a' := ?_) ?_ ?_
                        rotate_left
                        · simp only [putAll, Act.put, List.setIfInBounds_toArray, List.set_cons_zero, List.set_cons_succ]
                          rfl
                        refine two_ (i := 6) (j := 12) (Ni := some 77) (Nj := some 83) #[true, true, true, true, true, true, true, false, true, true, true, true, false, false, false] #[true, true, true, true, true, true, false, false, true, true, true, true, true, false, false] rfl rfl rfl rfl (two_of HT_.out (by kernel_rfl)) (by decide) (by decide) (fun K hK => ?_) (fun K hK => ?_)
                        · skip
                          refine goes_ Try.func24 (by kernel_rfl) rfl #[.int .u32 ((a0_1) % 4294967296)] (by rfl) rfl rfl (by (try simp only [List.map_toArray, List.map_cons, List.map_nil]); first | done | rfl | (simp only [List.length_drop, List.length_take]; rfl)) ?_
                          with_reducible refine (crc_Put.calls ((a0_1) % 4294967296) t226 _ A24.out).mono ?_
                          rintro e w34 ⟨rfl, hb⟩
                          refine ⟨_, rfl, ?_⟩
                          have n0_ := Aside0.mk (Kd.R_below (by (with_reducible repeat (first | apply Kd.R_alloc | apply Kd.R_drewN | apply Kd.R_drew)); exact HO229.out) hb)
                          have n1_ := Aside0.mk (blk_below (g := gb224) (o := .cells #[.int .u32 a0_0, .int .i64 a0_1, .int .i64 a0_2, .slice A0_3 l0_3.length c0_3, .string a0_4] 57 (0, 0)) (by (with_reducible repeat (first | refine blk_drewN ?_ _ | refine blk_drew ?_ | refine blk_alloc ?_ _)); exact BK224.out) hb)
                          have n2_ := Aside0.mk (below_step (by repeat (first | (with_reducible first | exact HB.out | apply below_alloc | apply pw_below_drewN | apply below_drew1 | refine below_set ?_ GE224.out) | exact HB.out)) hb)
                          clear HO229
                          clear BK224
                          clear HB
                          have HO229 := n0_
                          have BK224 := n1_
                          have HB := n2_
                          clear n0_ n1_ n2_
                          (try clear hb)
                          (try clear hb2)
                          (try clear hk)
                          (try clear hi)
                          refine hK.out _ _ ⟨(blk_cell BK224.out 0).trans rfl, (blk_cell BK224.out 1).trans rfl, (blk_cell BK224.out 2).trans rfl, (blk_cell BK224.out 3).trans rfl, (blk_cell BK224.out 4).trans rfl⟩ (fun hHeld => ?_)
                          clear hK K
                          refine norm_ (a' := ?_) ?_ ?_
                          rotate_left
                          · show Act.put _ (some 77) _ = _
                            simp only [Act.put, List.setIfInBounds_toArray, List.set_cons_zero, List.set_cons_succ, i64_w, i32_w]
                            rfl
                          refine pure_ (i := 7) (N := some 78) (v := ?_) (a' := ?_) #[true, true, true, true, true, true, true, true, true, true, true, true, false, false, false] rfl rfl (any_of HT_.out (by kernel_rfl)) (fun _ _ _ h => h) (Or.inl ⟨by rfl, ?_⟩) ?_ ?_
                          rotate_left
                          · intro w'
                            go_simp
                            with_reducible rfl
                          rotate_left
                          · simp only [Act.put, List.setIfInBounds_toArray, List.set_cons_zero, List.set_cons_succ, i64_w, i32_w]
                            rfl
                          exact norm_ (by first | (simp only [putAll, Act.put, List.setIfInBounds_toArray, List.set_cons_zero, List.set_cons_succ]; done) | (simp only [putAll, Act.put, List.setIfInBounds_toArray, List.set_cons_zero, List.set_cons_succ]; rfl)) (hJ2_6_11 (v228) _ ⟨hHeld, (by (with_reducible repeat (first | apply Kd.R_alloc | apply Kd.R_drewN | apply Kd.R_drew)); exact HO229.out), (by (with_reducible repeat (first | refine blk_drewN ?_ _ | refine blk_drew ?_ | refine blk_alloc ?_ _)); exact BK224.out), (by repeat (first | (with_reducible first | exact HB.out | apply below_alloc | apply pw_below_drewN | apply below_drew1 | refine below_set ?_ GE224.out) | exact HB.out))⟩)
                        · skip
                          have hcv34 := own_string (P := Try.prog) Try.underlying72 Try.underlying5 Try.underlying9 (Kd.own_of_R HO229.out)
                          refine value_ (w1 := ?_) (v := ?_) (by rfl) rfl ?_ ?_
                          rotate_left 2
                          · go_simp
                            constructor
                            · rfl
                            · rfl
                          clear hcv34
                          refine hK.out _ _ ⟨(blk_cell BK224.out 0).trans rfl, (blk_cell BK224.out 1).trans rfl, (blk_cell BK224.out 2).trans rfl, (blk_cell BK224.out 3).trans rfl, (blk_cell BK224.out 4).trans rfl⟩ (fun hHeld => ?_)
                          clear hK K
                          refine norm_ (a' := ?_) ?_ ?_
                          rotate_left
                          · show Act.put _ (some 83) _ = _
                            simp only [Act.put, List.setIfInBounds_toArray, List.set_cons_zero, List.set_cons_succ, i64_w, i32_w]
                            rfl
                          exact norm_ (by first | (simp only [putAll, Act.put, List.setIfInBounds_toArray, List.set_cons_zero, List.set_cons_succ]; done) | (simp only [putAll, Act.put, List.setIfInBounds_toArray, List.set_cons_zero, List.set_cons_succ]; rfl)) (hJ2_11_12 (v228) _ ⟨hHeld, (by (with_reducible repeat (first | apply Kd.R_alloc | apply Kd.R_drewN | apply Kd.R_drew)); exact HO229.out), (by (with_reducible repeat (first | refine blk_drewN ?_ _ | refine blk_drew ?_ | refine blk_alloc ?_ _)); exact BK224.out), (by repeat (first | (with_reducible first | exact HB.out | apply below_alloc | apply pw_below_drewN | apply below_drew1 | refine below_set ?_ GE224.out) | exact HB.out))⟩)
                    · skip
                      rintro _ w32 ⟨hS_, h0_, h1_⟩
                      have n0_ : Aside0 (w32.heap[gb224]? = some (.cells #[.int .u32 a0_0, .int .i64 a0_1, .int .i64 a0_2, .slice A0_3 l0_3.length c0_3, .string a0_4] 57 (0, 0))) := ⟨h0_⟩
                      have n1_ : Aside0 (Below w.heap.size w w32) := ⟨h1_⟩
                      clear BK224
                      clear HB
                      clear h0_ h1_
                      have BK224 := n0_
                      have HB := n1_
                      clear n0_ n1_
                      have hHeld : w32.cell? ⟨gb224, 0, none⟩ = some (.int .u32 a0_0) ∧ w32.cell? ⟨gb224, 1, none⟩ = some (.int .i64 a0_1) ∧ w32.cell? ⟨gb224, 2, none⟩ = some (.int .i64 a0_2) ∧ w32.cell? ⟨gb224, 3, none⟩ = some (.slice A0_3 l0_3.length c0_3) ∧ w32.cell? ⟨gb224, 4, none⟩ = some (.string a0_4) := hS_
                      refine norm_ (a' := ?_) ?_ ?_
                      rotate_left
                      · simp only [putAll, Act.put, List.setIfInBounds_toArray, List.set_cons_zero, List.set_cons_succ]
                        rfl
                      refine one_ (i := 11) (N := some 82) #[true, true, true, true, true, true, true, true, true, true, true, true, false, false, false] rfl rfl (one_of HT_.out (by kernel_rfl)) (by decide) (fun K hK => ?_)
                      refine Kd.R_lit_step (Kd.int .u8) _ 5 ?hg (N := 82) ?hd (xs := ([(a0_2) % 256] : List Int)) (inner := [.int .u8 ((a0_2) % 256)]) (ok := fun _ => True) (okp := fun _ => True) ?hr ?hp (fun _ hk => hk) trivial (Below.refl _ _) (Nat.le_refl _) (by simp) ?_; (case hd => rfl); (case hg => rfl); (case hr => first | (go_simp; done) | (go_simp; rfl)); (case hp => exact (Reps.one (show Kd.M (Kd.int .u8) _ _ _ ((a0_2) % 256) [.int .u8 ((a0_2) % 256)] from rfl) (Reps.none _ _)))
                      intro v228 w33 ho34 hb hg_ hnew_
                      clear hg_ hnew_
                      (first | rw [← Ny227.out] at ho34 | (simp only [Int.reduceToNat] at ho34; rw [← Ny227.out] at ho34))
                      have n0_ := Aside0.mk (Kd.R_lower ho34 (below_size (by repeat (first | (with_reducible first | exact HB.out | apply below_alloc | apply pw_below_drewN | apply below_drew1 | refine below_set ?_ GE224.out) | exact HB.out))))
                      have n1_ := Aside0.mk (blk_below (g := gb224) (o := .cells #[.int .u32 a0_0, .int .i64 a0_1, .int .i64 a0_2, .slice A0_3 l0_3.length c0_3, .string a0_4] 57 (0, 0)) (by (with_reducible repeat (first | refine blk_drewN ?_ _ | refine blk_drew ?_ | refine blk_alloc ?_ _)); exact BK224.out) hb)
                      have n2_ := Aside0.mk (below_step (by repeat (first | (with_reducible first | exact HB.out | apply below_alloc | apply pw_below_drewN | apply below_drew1 | refine below_set ?_ GE224.out) | exact HB.out)) hb)
                      clear BK224
                      clear HB
                      have HO229 := n0_
                      have BK224 := n1_
                      have HB := n2_
                      clear n0_ n1_ n2_
                      clear hb ho34
                      refine hK.out _ _ ⟨(blk_cell BK224.out 0).trans rfl, (blk_cell BK224.out 1).trans rfl, (blk_cell BK224.out 2).trans rfl, (blk_cell BK224.out 3).trans rfl, (blk_cell BK224.out 4).trans rfl⟩ (fun hHeld => ?_)
                      clear hK K
                      refine norm_ (a' := ?_) ?_ ?_
                      rotate_left
                      · show Act.put _ (some 82) _ = _
                        simp only [Act.put, List.setIfInBounds_toArray, List.set_cons_zero, List.set_cons_succ, i64_w, i32_w]
                        rfl
                      exact norm_ (by first | (simp only [putAll, Act.put, List.setIfInBounds_toArray, List.set_cons_zero, List.set_cons_succ]; done) | (simp only [putAll, Act.put, List.setIfInBounds_toArray, List.set_cons_zero, List.set_cons_succ]; rfl)) (hJ2_6_11 (v228) _ ⟨hHeld, (by (with_reducible repeat (first | apply Kd.R_alloc | apply Kd.R_drewN | apply Kd.R_drew)); exact HO229.out), (by (with_reducible repeat (first | refine blk_drewN ?_ _ | refine blk_drew ?_ | refine blk_alloc ?_ _)); exact BK224.out), (by repeat (first | (with_reducible first | exact HB.out | apply below_alloc | apply pw_below_drewN | apply below_drew1 | refine below_set ?_ GE224.out) | exact HB.out))⟩)
                  · skip
                    rintro v228 w34 ⟨hS_, h0_, h1_, h2_⟩
                    have n0_ : Aside0 (Kd.R (Kd.int .u8) 5 w34 w.heap.size (fun _ => True) v228 y227) := ⟨h0_⟩
                    have n1_ : Aside0 (w34.heap[gb224]? = some (.cells #[.int .u32 a0_0, .int .i64 a0_1, .int .i64 a0_2, .slice A0_3 l0_3.length c0_3, .string a0_4] 57 (0, 0))) := ⟨h1_⟩
                    have n2_ : Aside0 (Below w.heap.size w w34) := ⟨h2_⟩
                    clear BK224
                    clear HB
                    clear h0_ h1_ h2_
                    have HO229 := n0_
                    have BK224 := n1_
                    have HB := n2_
                    clear n0_ n1_ n2_
                    have hHeld : w34.cell? ⟨gb224, 0, none⟩ = some (.int .u32 a0_0) ∧ w34.cell? ⟨gb224, 1, none⟩ = some (.int .i64 a0_1) ∧ w34.cell? ⟨gb224, 2, none⟩ = some (.int .i64 a0_2) ∧ w34.cell? ⟨gb224, 3, none⟩ = some (.slice A0_3 l0_3.length c0_3) ∧ w34.cell? ⟨gb224, 4, none⟩ = some (.string a0_4) := hS_
                    refine norm_ (a' := ?_) ?_ ?_
                    rotate_left
                    · simp only [putAll, Act.put, List.setIfInBounds_toArray, List.set_cons_zero, List.set_cons_succ]
                      rfl
                    refine one_ (i := 6) (N := some 77) #[true, true, true, true, true, true, true, false, true, true, true, true, true, false, false] rfl rfl (one_of HT_.out (by kernel_rfl)) (by decide) (fun K hK => ?_)
                    refine goes_ Try.func24 (by kernel_rfl) rfl #[.int .u32 ((a0_1) % 4294967296)] (by rfl) rfl rfl (by (try simp only [List.map_toArray, List.map_cons, List.map_nil]); first | done | rfl | (simp only [List.length_drop, List.length_take]; rfl)) ?_
                    with_reducible refine (crc_Put.calls ((a0_1) % 4294967296) t226 _ A24.out).mono ?_
                    rintro e w35 ⟨rfl, hb⟩
                    refine ⟨_, rfl, ?_⟩
                    have n0_ := Aside0.mk (Kd.R_below (by (with_reducible repeat (first | apply Kd.R_alloc | apply Kd.R_drewN | apply Kd.R_drew)); exact HO229.out) hb)
                    have n1_ := Aside0.mk (blk_below (g := gb224) (o := .cells #[.int .u32 a0_0, .int .i64 a0_1, .int .i64 a0_2, .slice A0_3 l0_3.length c0_3, .string a0_4] 57 (0, 0)) (by (with_reducible repeat (first | refine blk_drewN ?_ _ | refine blk_drew ?_ | refine blk_alloc ?_ _)); exact BK224.out) hb)
                    have n2_ := Aside0.mk (below_step (by repeat (first | (with_reducible first | exact HB.out | apply below_alloc | apply pw_below_drewN | apply below_drew1 | refine below_set ?_ GE224.out) | exact HB.out)) hb)
                    clear HO229
                    clear BK224
                    clear HB
                    have HO229 := n0_
                    have BK224 := n1_
                    have HB := n2_
                    clear n0_ n1_ n2_
                    (try clear hb)
                    (try clear hb2)
                    (try clear hk)
                    (try clear hi)
                    refine hK.out _ _ ⟨(blk_cell BK224.out 0).trans rfl, (blk_cell BK224.out 1).trans rfl, (blk_cell BK224.out 2).trans rfl, (blk_cell BK224.out 3).trans rfl, (blk_cell BK224.out 4).trans rfl⟩ (fun hHeld => ?_)
                    clear hK K
                    refine norm_ (a' := ?_) ?_ ?_
                    rotate_left
                    · show Act.put _ (some 77) _ = _
                      simp only [Act.put, List.setIfInBounds_toArray, List.set_cons_zero, List.set_cons_succ, i64_w, i32_w]
                      rfl
                    refine pure_ (i := 7) (N := some 78) (v := ?_) (a' := ?_) #[true, true, true, true, true, true, true, true, true, true, true, true, true, false, false] rfl rfl (any_of HT_.out (by kernel_rfl)) (fun _ _ _ h => h) (Or.inl ⟨by rfl, ?_⟩) ?_ ?_
                    rotate_left
                    · intro w'
                      go_simp
                      with_reducible rfl
                    rotate_left
                    · simp only [Act.put, List.setIfInBounds_toArray, List.set_cons_zero, List.set_cons_succ, i64_w, i32_w]
                      rfl
                    exact norm_ (by first | (simp only [putAll, Act.put, List.setIfInBounds_toArray, List.set_cons_zero, List.set_cons_succ]; done) | (simp only [putAll, Act.put, List.setIfInBounds_toArray, List.set_cons_zero, List.set_cons_succ]; rfl)) (hJ2_6_11_12 (v228) _ ⟨hHeld, (by (with_reducible repeat (first | apply Kd.R_alloc | apply Kd.R_drewN | apply Kd.R_drew)); exact HO229.out), (by (with_reducible repeat (first | refine blk_drewN ?_ _ | refine blk_drew ?_ | refine blk_alloc ?_ _)); exact BK224.out), (by repeat (first | (with_reducible first | exact HB.out | apply below_alloc | apply pw_below_drewN | apply below_drew1 | refine below_set ?_ GE224.out) | exact HB.out))⟩)
                · skip
                  rintro v228 w34 ⟨hS_, h0_, h1_, h2_⟩
                  have n0_ : Aside0 (Kd.R (Kd.int .u8) 5 w34 w.heap.size (fun _ => True) v228 y227) := ⟨h0_⟩
                  have n1_ : Aside0 (w34.heap[gb224]? = some (.cells #[.int .u32 a0_0, .int .i64 a0_1, .int .i64 a0_2, .slice A0_3 l0_3.length c0_3, .string a0_4] 57 (0, 0))) := ⟨h1_⟩
                  have n2_ : Aside0 (Below w.heap.size w w34) := ⟨h2_⟩
                  clear BK224
                  clear HB
                  clear h0_ h1_ h2_
                  have HO229 := n0_
                  have BK224 := n1_
                  have HB := n2_
                  clear n0_ n1_ n2_
                  have hHeld : w34.cell? ⟨gb224, 0, none⟩ = some (.int .u32 a0_0) ∧ w34.cell? ⟨gb224, 1, none⟩ = some (.int .i64 a0_1) ∧ w34.cell? ⟨gb224, 2, none⟩ = some (.int .i64 a0_2) ∧ w34.cell? ⟨gb224, 3, none⟩ = some (.slice A0_3 l0_3.length c0_3) ∧ w34.cell? ⟨gb224, 4, none⟩ = some (.string a0_4) := hS_
                  refine norm_ (a' := ?_) ?_ ?_
                  rotate_left
                  · simp only [putAll, Act.put, List.setIfInBounds_toArray, List.set_cons_zero, List.set_cons_succ]
                    rfl
                  refine one_ (i := 12) (N := some 83) #[true, true, true, true, true, true, true, true, true, true, true, true, true, false, false] rfl rfl (one_of HT_.out (by kernel_rfl)) (by decide) (fun K hK => ?_)
                  have hcv35 := own_string (P := Try.prog) Try.underlying72 Try.underlying5 Try.underlying9 (Kd.own_of_R HO229.out)
                  refine value_ (w1 := ?_) (v := ?_) (by rfl) rfl ?_ ?_
                  rotate_left 2
                  · go_simp
                    constructor
                    · rfl
                    · rfl
                  clear hcv35
                  refine hK.out _ _ ⟨(blk_cell BK224.out 0).trans rfl, (blk_cell BK224.out 1).trans rfl, (blk_cell BK224.out 2).trans rfl, (blk_cell BK224.out 3).trans rfl, (blk_cell BK224.out 4).trans rfl⟩ (fun hHeld => ?_)
                  clear hK K
                  refine norm_ (a' := ?_) ?_ ?_
                  rotate_left
                  · show Act.put _ (some 83) _ = _
                    simp only [Act.put, List.setIfInBounds_toArray, List.set_cons_zero, List.set_cons_succ, i64_w, i32_w]
                    rfl
                  exact norm_ (by first | (simp only [putAll, Act.put, List.setIfInBounds_toArray, List.set_cons_zero, List.set_cons_succ]; done) | (simp only [putAll, Act.put, List.setIfInBounds_toArray, List.set_cons_zero, List.set_cons_succ]; rfl)) (hJ2_6_11_12 (v228) _ ⟨hHeld, (by (with_reducible repeat (first | apply Kd.R_alloc | apply Kd.R_drewN | apply Kd.R_drew)); exact HO229.out), (by (with_reducible repeat (first | refine blk_drewN ?_ _ | refine blk_drew ?_ | refine blk_alloc ?_ _)); exact BK224.out), (by repeat (first | (with_reducible first | exact HB.out | apply below_alloc | apply pw_below_drewN | apply below_drew1 | refine below_set ?_ GE224.out) | exact HB.out))⟩)
              rintro v228 w35 ⟨hS_, h0_, h1_, h2_⟩
              have n0_ : Aside0 (Kd.R (Kd.int .u8) 5 w35 w.heap.size (fun _ => True) v228 y227) := ⟨h0_⟩
              have n1_ : Aside0 (w35.heap[gb224]? = some (.cells #[.int .u32 a0_0, .int .i64 a0_1, .int .i64 a0_2, .slice A0_3 l0_3.length c0_3, .string a0_4] 57 (0, 0))) := ⟨h1_⟩
              have n2_ : Aside0 (Below w.heap.size w w35) := ⟨h2_⟩
              clear BK224
              clear HB
              clear h0_ h1_ h2_
              have HO229 := n0_
              have BK224 := n1_
              have HB := n2_
              clear n0_ n1_ n2_
              have hHeld : w35.cell? ⟨gb224, 0, none⟩ = some (.int .u32 a0_0) ∧ w35.cell? ⟨gb224, 1, none⟩ = some (.int .i64 a0_1) ∧ w35.cell? ⟨gb224, 2, none⟩ = some (.int .i64 a0_2) ∧ w35.cell? ⟨gb224, 3, none⟩ = some (.slice A0_3 l0_3.length c0_3) ∧ w35.cell? ⟨gb224, 4, none⟩ = some (.string a0_4) := hS_
              refine norm_ (a' := ?_) ?_ ?_
              rotate_left
              · simp only [putAll, Act.put, List.setIfInBounds_toArray, List.set_cons_zero, List.set_cons_succ]
                rfl
              refine pure_ (i := 13) (N := some 84) (v := ?_) (a' := ?_) #[true, true, true, true, true, true, true, true, true, true, true, true, true, true, false] rfl rfl (any_of HT_.out (by kernel_rfl)) (fun _ _ _ h => h) (Or.inl ⟨by rfl, ?_⟩) ?_ ?_
              rotate_left
              · intro w'
                go_simp
                with_reducible rfl
              rotate_left
              · simp only [Act.put, List.setIfInBounds_toArray, List.set_cons_zero, List.set_cons_succ, i64_w, i32_w]
                rfl
              refine pure_ (i := 14) (N := some 8) (v := ?_) (a' := ?_) #[true, true, true, true, true, true, true, true, true, true, true, true, true, true, true] rfl rfl (any_of HT_.out (by kernel_rfl)) (fun _ _ _ h => h) (Or.inl ⟨by rfl, ?_⟩) ?_ ?_
              rotate_left
              · intro w'
                go_simp
                with_reducible rfl
              rotate_left
              · simp only [Act.put, List.setIfInBounds_toArray, List.set_cons_zero, List.set_cons_succ, i64_w, i32_w]
                rfl
              refine done_ (done_of HT_.out (by kernel_rfl)) ?_
              try go_wp2_with (first | ((with_reducible refine gate_dst (N := 89) rfl ?_); (try (refine gate_guard (by rfl) ?_; dsimp only)); refine Kd.R_lit k52 _ 52 ?hg (N := 89) ?hd (xs := ([(⟨1, (t225 ++ t226) ++ (strOfNums y227)⟩ : S52), (⟨2, a0_4⟩ : S52)] : List (S52))) (inner := [.int .i64 1, .string ((t225 ++ t226) ++ (strOfNums y227)), .int .i64 2, .string a0_4]) (ok := fun _ => True) (okp := fun _ => True) ?hr ?hp (fun _ hk => hk) trivial (Below.refl _ _) (Nat.le_refl _) (by simp) ?_; (case hd => rfl); (case hg => rfl); (case hr => first | (go_simp; done) | (go_simp; rfl)); (case hp => exact (Reps.c2 (show Kd.M k52 _ _ _ (⟨1, (t225 ++ t226) ++ (strOfNums y227)⟩ : S52) [.int .i64 1, .string ((t225 ++ t226) ++ (strOfNums y227))] from (k52_mkM _ _ _ (⟨1, (t225 ++ t226) ++ (strOfNums y227)⟩ : S52) )) (Reps.c2 (show Kd.M k52 _ _ _ (⟨2, a0_4⟩ : S52) [.int .i64 2, .string a0_4] from (k52_mkM _ _ _ (⟨2, a0_4⟩ : S52) )) (Reps.none _ _)))); intro v231 w36 ho37 hb hg_ hnew_; clear hg_ hnew_; (first | rw [← Ny230.out] at ho37 | (simp only [Int.reduceToNat] at ho37; rw [← Ny230.out] at ho37)); have n0_ := Aside0.mk (Kd.R_below (by (with_reducible repeat (first | apply Kd.R_alloc | apply Kd.R_drewN | apply Kd.R_drew)); exact HO229.out) hb); have n1_ := Aside0.mk (Kd.R_lower ho37 (below_size (by repeat (first | (with_reducible first | exact HB.out | apply below_alloc | apply pw_below_drewN | apply below_drew1 | refine below_set ?_ GE224.out) | exact HB.out)))); have n2_ := Aside0.mk (blk_below (g := gb224) (o := .cells #[.int .u32 a0_0, .int .i64 a0_1, .int .i64 a0_2, .slice A0_3 l0_3.length c0_3, .string a0_4] 57 (0, 0)) (by (with_reducible repeat (first | refine blk_drewN ?_ _ | refine blk_drew ?_ | refine blk_alloc ?_ _)); exact BK224.out) hb); have n3_ := Aside0.mk (below_step (by repeat (first | (with_reducible first | exact HB.out | apply below_alloc | apply pw_below_drewN | apply below_drew1 | refine below_set ?_ GE224.out) | exact HB.out)) hb); clear HO229; clear BK224; clear HB; have HO229 := n0_; have HO232 := n1_; have BK224 := n2_; have HB := n3_; clear n0_ n1_ n2_ n3_; clear hb ho37; obtain ⟨Ao38, co38, eo38⟩ := Kd.R_slice HO232.out; subst eo38) | ((with_reducible refine gate_callee (f := 30) rfl ?_); refine goesL_ (some 90) rfl rfl Try.func30 (by kernel_rfl) rfl #[.string (⟨#[68, 73, 79, 80]⟩ : ByteArray), .int .i64 2, .slice Ao38 y230.length co38] rfl (by (try simp only [List.map_toArray, List.map_cons, List.map_nil]); first | done | rfl | (simp only [List.length_drop, List.length_take]; rfl)) ?_; (with_reducible refine (frame_Put.calls (⟨#[68, 73, 79, 80]⟩ : ByteArray) 2 _ _ y230 t233 t234 _ ?side1 ?side2 A27.out).mono ?_); (case side1 => repeat (first | exact (Kd.R_reads' HO232.out).2.2 | (with_reducible refine Kd.C_alloc ?_ _) | (with_reducible refine Kd.C_drewN ?_ _) | (with_reducible refine Kd.C_drew ?_))); (case side2 => exact (Kd.R_reads' HO232.out).2.1); rintro e w39 ⟨rfl, hb⟩; refine ⟨_, rfl, ?_⟩; have n0_ := Aside0.mk (Kd.R_below (by (with_reducible repeat (first | apply Kd.R_alloc | apply Kd.R_drewN | apply Kd.R_drew)); exact HO229.out) hb); have n1_ := Aside0.mk (Kd.R_below (by (with_reducible repeat (first | apply Kd.R_alloc | apply Kd.R_drewN | apply Kd.R_drew)); exact HO232.out) hb); have n2_ := Aside0.mk (blk_below (g := gb224) (o := .cells #[.int .u32 a0_0, .int .i64 a0_1, .int .i64 a0_2, .slice A0_3 l0_3.length c0_3, .string a0_4] 57 (0, 0)) (by (with_reducible repeat (first | refine blk_drewN ?_ _ | refine blk_drew ?_ | refine blk_alloc ?_ _)); exact BK224.out) hb); have n3_ := Aside0.mk (below_step (by repeat (first | (with_reducible first | exact HB.out | apply below_alloc | apply pw_below_drewN | apply below_drew1 | refine below_set ?_ GE224.out) | exact HB.out)) hb); clear HO229; clear HO232; clear BK224; clear HB; have HO229 := n0_; have HO232 := n1_; have BK224 := n2_; have HB := n3_; clear n0_ n1_ n2_ n3_; (try clear hb); (try clear hb2); (try clear hk); (try clear hi)))
              go_ret2
              exact ⟨by first | rfl | (simp [errW_none, errW_some] <;> rfl) | (simp [*, errW_none, errW_some] <;> rfl), by repeat (first | (with_reducible first | exact HB.out | apply below_alloc | apply pw_below_drewN | apply below_drew1 | refine below_set ?_ GE224.out) | exact HB.out)⟩
            · rw [if_neg c26] at H
              exact absurd H (by simp)
          · rw [if_neg c25] at H
            exact absurd H (by simp)

end Go.Proofs.Ytdjpelcdijpihaa.PrintF
