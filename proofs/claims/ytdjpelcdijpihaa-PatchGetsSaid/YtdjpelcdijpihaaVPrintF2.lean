/- A part of the proof of the claim: what it uses of the text PrintF2 (printed by xprint.py). -/
import Derived.Test.YtdjpelcdijpihaaVZ
import Derived.Test.YtdjpelcdijpihaaShort
import Derived.Test.YtdjpelcdijpihaaVPrintF0
import Derived.Test.YtdjpelcdijpihaaVPrintF1
namespace Go.Proofs.Ytdjpelcdijpihaa.PrintF
open Go.Proofs.Ytdjpelcdijpihaa.Print
open Go.RowKit Go.Proofs.YtdjpelcdijpihaaW.PrintWords Go.Proofs.YtdjpelcdijpihaaW.PrintLast Go.Proofs.YtdjpelcdijpihaaW.PrintMore
attribute [local go_sem] max2_int min2_int max_two min_two
set_option linter.unusedVariables false
set_option linter.unusedSimpArgs false
mutual
def varint_Get.j0 : Nat → ByteArray → Int → Bool → Option (Int × Int × Int)
 | 0, _, _, _ => none
 | k + 1, x0, x1, x17 => if x17 = true then (some (0, 0, 1)) else (varint_Get.l0 k x0 x1 0 0)
def varint_Get.l0 : Nat → ByteArray → Int → Int → Int → Option (Int × Int × Int)
 | 0, _, _, _, _ => none
 | k + 1, x0, x1, x7, x8 => if (wrap64 (x1 + x8)) ≥ (x0.size : Int) then (some (0, 0, 2)) else (if 0 ≤ (wrap64 (x1 + x8)) then (if (wrap64 (x1 + x8)) < (x0.size : Int) then (if x8 = 9 then (if (bt x0 (wrap64 (x1 + x8))) > 1 then (varint_Get.j2 k x0 x1 x7 x8 (bt x0 (wrap64 (x1 + x8))) true) else (if (bt x0 (wrap64 (x1 + x8))) = 0 then (varint_Get.j2 k x0 x1 x7 x8 (bt x0 (wrap64 (x1 + x8))) (decide (x8 > 0))) else (varint_Get.j2 k x0 x1 x7 x8 (bt x0 (wrap64 (x1 + x8))) false))) else (if (bt x0 (wrap64 (x1 + x8))) = 0 then (varint_Get.j2 k x0 x1 x7 x8 (bt x0 (wrap64 (x1 + x8))) (decide (x8 > 0))) else (varint_Get.j2 k x0 x1 x7 x8 (bt x0 (wrap64 (x1 + x8))) false))) else (none)) else (none))
def varint_Get.j2 : Nat → ByteArray → Int → Int → Int → Int → Bool → Option (Int × Int × Int)
 | 0, _, _, _, _, _, _ => none
 | k + 1, x0, x1, x7, x8, x9, x44 => if x44 = true then (some (0, 0, 3)) else (if 0 ≤ (wrap64 (7 * x8)) then (if x9 < 128 then (some (Go.bits .or .u64 x7 (shl .u64 (IntKind.u64.wrap (Go.bits .and .u8 x9 127)) (wrap64 (7 * x8))), wrap64 ((wrap64 (x1 + x8)) + 1), 0)) else (varint_Get.l0 k x0 x1 (Go.bits .or .u64 x7 (shl .u64 (IntKind.u64.wrap (Go.bits .and .u8 x9 127)) (wrap64 (7 * x8)))) (wrap64 (x8 + 1)))) else (none))
end
def varint_Get.f (k : Nat) (a0 : ByteArray) (a1 : Int) : Option (Int × Int × Int) := if a1 < 0 then (varint_Get.j0 k a0 a1 true) else (varint_Get.j0 k a0 a1 (decide (a1 > (a0.size : Int))))
theorem varint_Get.mono_l : ∀ k, (∀ y0 y1 y2, LeO (varint_Get.j0 k y0 y1 y2) (varint_Get.j0 (k + 1) y0 y1 y2)) ∧ (∀ y0 y1 y2 y3, LeO (varint_Get.l0 k y0 y1 y2 y3) (varint_Get.l0 (k + 1) y0 y1 y2 y3)) ∧ (∀ y0 y1 y2 y3 y4 y5, LeO (varint_Get.j2 k y0 y1 y2 y3 y4 y5) (varint_Get.j2 (k + 1) y0 y1 y2 y3 y4 y5))
 | 0 => ⟨fun _ _ _ r h => by simp [varint_Get.j0] at h, fun _ _ _ _ r h => by simp [varint_Get.l0] at h, fun _ _ _ _ _ _ r h => by simp [varint_Get.j2] at h⟩
 | k + 1 => by
  obtain ⟨ih0, ih1, ih2⟩ := varint_Get.mono_l k
  refine ⟨?_, ?_, ?_⟩
  ·intro y0 y1 y2
   unfold varint_Get.j0
   repeat' first
   | (with_reducible exact ih0 _ _ _)
   | (with_reducible exact ih1 _ _ _ _)
   | (with_reducible exact ih2 _ _ _ _ _ _)
   | (with_reducible exact LeO.refl _)
   | (with_reducible exact LeO.none _)
   | (with_reducible refine LeO.ite ?_ ?_)
   | (with_reducible refine LeO.bind ?_ (fun _ => ?_))
   | exact ih0 _ _ _
   | exact ih1 _ _ _ _
   | exact ih2 _ _ _ _ _ _
   | exact LeO.none _
   | refine LeO.ite ?_ ?_
   | refine LeO.bind ?_ (fun _ => ?_)
  ·intro y0 y1 y2 y3
   unfold varint_Get.l0
   repeat' first
   | (with_reducible exact ih0 _ _ _)
   | (with_reducible exact ih1 _ _ _ _)
   | (with_reducible exact ih2 _ _ _ _ _ _)
   | (with_reducible exact LeO.refl _)
   | (with_reducible exact LeO.none _)
   | (with_reducible refine LeO.ite ?_ ?_)
   | (with_reducible refine LeO.bind ?_ (fun _ => ?_))
   | exact ih0 _ _ _
   | exact ih1 _ _ _ _
   | exact ih2 _ _ _ _ _ _
   | exact LeO.none _
   | refine LeO.ite ?_ ?_
   | refine LeO.bind ?_ (fun _ => ?_)
  ·intro y0 y1 y2 y3 y4 y5
   unfold varint_Get.j2
   repeat' first
   | (with_reducible exact ih0 _ _ _)
   | (with_reducible exact ih1 _ _ _ _)
   | (with_reducible exact ih2 _ _ _ _ _ _)
   | (with_reducible exact LeO.refl _)
   | (with_reducible exact LeO.none _)
   | (with_reducible refine LeO.ite ?_ ?_)
   | (with_reducible refine LeO.bind ?_ (fun _ => ?_))
   | exact ih0 _ _ _
   | exact ih1 _ _ _ _
   | exact ih2 _ _ _ _ _ _
   | exact LeO.none _
   | refine LeO.ite ?_ ?_
   | refine LeO.bind ?_ (fun _ => ?_)
theorem varint_Get.mono : ∀ a0 a1 k, LeO (varint_Get.f k a0 a1) (varint_Get.f (k + 1) a0 a1) := by
 intro a0 a1 k
 obtain ⟨ih0, ih1, ih2⟩ := varint_Get.mono_l k
 unfold varint_Get.f
 repeat' first
   | (with_reducible exact ih0 _ _ _)
   | (with_reducible exact ih1 _ _ _ _)
   | (with_reducible exact ih2 _ _ _ _ _ _)
   | (with_reducible exact LeO.refl _)
   | (with_reducible exact LeO.none _)
   | (with_reducible refine LeO.ite ?_ ?_)
   | (with_reducible refine LeO.bind ?_ (fun _ => ?_))
   | exact ih0 _ _ _
   | exact ih1 _ _ _ _
   | exact ih2 _ _ _ _ _ _
   | exact LeO.none _
   | refine LeO.ite ?_ ?_
   | refine LeO.bind ?_ (fun _ => ?_)
set_option maxHeartbeats 8000000 in
set_option maxRecDepth 100000 in
theorem varint_Get.calls (k : Nat) (a0 : ByteArray) (a1 : Int) (r1 : Int) (r2 : Int) (r3 : Int) (w : World) (h : varint_Get.f k a0 a1 = some (r1, r2, r3)) :
  Calls Try.prog 109 #[.string a0, .int .i64 a1] w fun e w' => e = .returned (.tuple #[.int .u64 r1, .int .i64 r2, .int .i64 r3]) ∧ Drawn0 w w' := by
 have H : (if a1 < 0 then (varint_Get.j0 k a0 a1 true) else (varint_Get.j0 k a0 a1 (decide (a1 > (a0.size : Int))))) = some (r1, r2, r3) := h
 clear h
 have HC3 := Aside0.mk H
 clear H
 go_enter Try.func109, Try.ntmps109
 go_upto_region 1 with (fail)
 go_cut [17] (fun v17 wc => ∃ (kq : Nat) (x17_2 : Bool), v17 = .bool x17_2 ∧ Aside0 (varint_Get.j0 kq a0 a1 x17_2 = some (r1, r2, r3)) ∧ Aside0 (kq ≤ k) ∧ Drawn0 w wc)
 case first =>
  have H := HC3.out
  clear HC3
  by_cases c4 : a1 < 0
  ·rw [if_pos c4] at H
   have c4b0 : decide (a1 < 0) = true := decide_eq_true c4
   clear c4
   (first | rw [c4b0] | (simp only [i64_w]; rw [c4b0]) | skip)
   have H' := Aside0.mk H
   clear H
   go_wp2
   go_meet
   case rel => exact ⟨_, (true), zr, H', ⟨by first | omega | exact Nat.le_refl _⟩, by repeat (first | exact Drawn0.refl _ | apply Drawn0.step)⟩
  ·rw [if_neg c4] at H
   have c4b0 : decide (a1 < 0) = false := decide_eq_false c4
   clear c4
   (first | rw [c4b0] | (simp only [i64_w]; rw [c4b0]) | skip)
   have H' := Aside0.mk H
   clear H
   go_wp2
   go_meet
   case rel => exact ⟨_, (decide (a1 > (a0.size : Int))), zr, H', ⟨by first | omega | exact Nat.le_refl _⟩, by repeat (first | exact Drawn0.refl _ | apply Drawn0.step)⟩
 case rest =>
  clear HC3
  try clear c1
  try clear p2
  try clear c4
  try clear c4b0
  obtain ⟨kq, x17_2, rfl, HA, HJ2, ⟨mc2, rfl⟩⟩ := hcut
  cases kq with
  | zero => exact absurd HA.out (by simp [varint_Get.j0])
  | succ kj2 =>
   have H := HA.out
   clear HA
   simp only [varint_Get.j0] at H
   by_cases c5 : x17_2 = true
   ·subst c5
    have H1 : (some (0, 0, 1)) = some (r1, r2, r3) := by rw [if_pos rfl] at H; exact H
    clear H
    have H := H1
    clear H1
    simp only [Option.some.injEq, Prod.mk.injEq] at H
    obtain ⟨rfl, rfl, rfl⟩ := H
    go_wp2
    go_ret3
    exact ⟨by first | rfl | (simp; done) | (simp [*]; done), by repeat (first | exact Drawn0.refl _ | apply Drawn0.step)⟩
   ·replace c5 := Bool.eq_false_iff.mpr c5
    subst c5
    have H1 : (varint_Get.l0 kj2 a0 a1 0 0) = some (r1, r2, r3) := by rw [if_neg (show ¬ (false = true) by decide)] at H; exact H
    clear H
    have H := H1
    clear H1
    have H' := Aside0.mk H
    clear H
    go_wp2
    go_loopg [7, 8] kj2 (fun kq v7 v8 w' => ∃ (x7_2 : Int) (x8_2 : Int), v7 = .int .u64 x7_2 ∧ v8 = .int .i64 x8_2 ∧ Aside0 (varint_Get.l0 kq a0 a1 x7_2 x8_2 = some (r1, r2, r3)) ∧ Aside0 (kq ≤ kj2) ∧ Drawn0 w w')
    case atStart => exact ⟨(0), (0), zr, zr, H', ⟨Nat.le_refl _⟩, by repeat (first | exact Drawn0.refl _ | apply Drawn0.step)⟩
    case round =>
     clear H'
     try clear c1
     try clear c2
     try clear p2
     try clear c4
     try clear c4b0
     try clear c5
     try clear p2
     obtain ⟨x7_2, x8_2, rfl, rfl, HA, HK2, ⟨m2, rfl⟩⟩ := hrel
     cases gk with
     | zero => exact absurd HA.out (by simp [varint_Get.l0])
     | succ k2 =>
      have H := HA.out
      clear HA
      simp only [varint_Get.l0] at H
      by_cases c6 : (wrap64 (a1 + x8_2)) ≥ (a0.size : Int)
      ·rw [if_pos c6] at H
       have c6b0 : decide ((a0.size : Int) ≤ (wrap64 (a1 + x8_2))) = true := decide_eq_true c6
       clear c6
       simp only [Option.some.injEq, Prod.mk.injEq] at H
       obtain ⟨rfl, rfl, rfl⟩ := H
       go_wp2
       go_ret3
       exact ⟨by first | rfl | (simp; done) | (simp [*]; done), by repeat (first | exact Drawn0.refl _ | apply Drawn0.step)⟩
      ·rw [if_neg c6] at H
       have c6b0 : decide ((a0.size : Int) ≤ (wrap64 (a1 + x8_2))) = false := decide_eq_false c6
       clear c6
       obtain ⟨ji7, hji7⟩ : ∃ j_ : Int, (wrap64 (a1 + x8_2)) = j_ := ⟨_, rfl⟩
       replace H : (if 0 ≤ (ji7) then (if (ji7) < (a0.size : Int) then (if x8_2 = 9 then (if (bt a0 (ji7)) > 1 then (varint_Get.j2 k2 a0 a1 x7_2 x8_2 (bt a0 (ji7)) true) else (if (bt a0 (ji7)) = 0 then (varint_Get.j2 k2 a0 a1 x7_2 x8_2 (bt a0 (ji7)) (decide (x8_2 > 0))) else (varint_Get.j2 k2 a0 a1 x7_2 x8_2 (bt a0 (ji7)) false))) else (if (bt a0 (ji7)) = 0 then (varint_Get.j2 k2 a0 a1 x7_2 x8_2 (bt a0 (ji7)) (decide (x8_2 > 0))) else (varint_Get.j2 k2 a0 a1 x7_2 x8_2 (bt a0 (ji7)) false))) else (none)) else (none)) = some (r1, r2, r3) := by first | (rw [hji7] at H; exact H) | (simp only [hji7] at H ⊢; exact H)
       (try rw [hji7] at c6b0)
       have hji7w : (IntKind.i64.wrap (a1 + x8_2)) = ji7 := (i64_w _).trans hji7
       by_cases c8 : 0 ≤ (ji7)
       ·rw [if_pos c8] at H
        have c8b0 : decide (0 ≤ (ji7)) = true := decide_eq_true c8
        clear c8
        by_cases c9 : (ji7) < (a0.size : Int)
        ·rw [if_pos c9] at H
         have c9b0 : decide ((ji7) < (a0.size : Int)) = true := decide_eq_true c9
         clear c9
         have HC11 := Aside0.mk H
         clear H
         have p10 : 0 ≤ ((ji7) : Int) := of_decide_eq_true (by first | (with_reducible assumption) | assumption)
         have q10 : (ji7) < (a0.size : Int) := of_decide_eq_true (by first | (with_reducible assumption) | assumption)
         have hx10 := bt_at a0 (ji7)
         replace p10 := eq_true p10
         replace q10 := eq_true q10
         go_upto_region 9 with (fail)
         go_cut [44] (fun v44 wc => ∃ (kq : Nat) (x44_10 : Bool), v44 = .bool x44_10 ∧ Aside0 (varint_Get.j2 kq a0 a1 x7_2 x8_2 (bt a0 (ji7)) x44_10 = some (r1, r2, r3)) ∧ Aside0 (kq ≤ k2) ∧ Drawn0 w wc)
         case first =>
          have H := HC11.out
          clear HC11
          by_cases c12 : x8_2 = 9
          ·rw [if_pos c12] at H
           have c12b0 : (x8_2 == 9) = true := beq_iff_eq.mpr c12
           have c12b1 : (x8_2 != 9) = false := bne_eq_false_iff_eq.mpr c12
           clear c12
           (first | rw [c12b0] | (simp only [i64_w]; rw [c12b0]) | skip)
           by_cases c13 : (bt a0 (ji7)) > 1
           ·rw [if_pos c13] at H
            have c13b0 : decide (1 < (bt a0 (ji7))) = true := decide_eq_true c13
            clear c13
            have H' := Aside0.mk H
            clear H
            go_wp2
            go_meet
            case rel => exact ⟨_, (true), zr, H', ⟨by have := HJ2.out; have := HK2.out; first | omega | exact Nat.le_refl _⟩, by repeat (first | exact Drawn0.refl _ | apply Drawn0.step)⟩
           ·rw [if_neg c13] at H
            have c13b0 : decide (1 < (bt a0 (ji7))) = false := decide_eq_false c13
            clear c13
            by_cases c14 : (bt a0 (ji7)) = 0
            ·rw [if_pos c14] at H
             have c14b0 : ((bt a0 (ji7)) == 0) = true := beq_iff_eq.mpr c14
             have c14b1 : ((bt a0 (ji7)) != 0) = false := bne_eq_false_iff_eq.mpr c14
             clear c14
             have H' := Aside0.mk H
             clear H
             go_wp2
             go_meet
             case rel => exact ⟨_, (decide (x8_2 > 0)), zr, H', ⟨by have := HJ2.out; have := HK2.out; first | omega | exact Nat.le_refl _⟩, by repeat (first | exact Drawn0.refl _ | apply Drawn0.step)⟩
            ·rw [if_neg c14] at H
             have c14b0 : ((bt a0 (ji7)) == 0) = false := beq_eq_false_iff_ne.mpr c14
             have c14b1 : ((bt a0 (ji7)) != 0) = true := bne_iff_ne.mpr c14
             have H' := Aside0.mk H
             clear H
             go_wp2
             go_meet
             case rel => exact ⟨_, (false), zr, H', ⟨by have := HJ2.out; have := HK2.out; first | omega | exact Nat.le_refl _⟩, by repeat (first | exact Drawn0.refl _ | apply Drawn0.step)⟩
          ·rw [if_neg c12] at H
           have c12b0 : (x8_2 == 9) = false := beq_eq_false_iff_ne.mpr c12
           have c12b1 : (x8_2 != 9) = true := bne_iff_ne.mpr c12
           (first | rw [c12b0] | (simp only [i64_w]; rw [c12b0]) | skip)
           by_cases c15 : (bt a0 (ji7)) = 0
           ·rw [if_pos c15] at H
            have c15b0 : ((bt a0 (ji7)) == 0) = true := beq_iff_eq.mpr c15
            have c15b1 : ((bt a0 (ji7)) != 0) = false := bne_eq_false_iff_eq.mpr c15
            clear c15
            have H' := Aside0.mk H
            clear H
            go_wp2
            go_meet
            case rel => exact ⟨_, (decide (x8_2 > 0)), zr, H', ⟨by have := HJ2.out; have := HK2.out; first | omega | exact Nat.le_refl _⟩, by repeat (first | exact Drawn0.refl _ | apply Drawn0.step)⟩
           ·rw [if_neg c15] at H
            have c15b0 : ((bt a0 (ji7)) == 0) = false := beq_eq_false_iff_ne.mpr c15
            have c15b1 : ((bt a0 (ji7)) != 0) = true := bne_iff_ne.mpr c15
            have H' := Aside0.mk H
            clear H
            go_wp2
            go_meet
            case rel => exact ⟨_, (false), zr, H', ⟨by have := HJ2.out; have := HK2.out; first | omega | exact Nat.le_refl _⟩, by repeat (first | exact Drawn0.refl _ | apply Drawn0.step)⟩
         case rest =>
          clear HC11
          try clear c1
          try clear p1
          try clear q1
          try clear hx1
          try clear c2
          try clear p2
          try clear c4
          try clear c4b0
          try clear c5
          try clear c6
          try clear c6b0
          try clear p6
          try clear c8
          try clear c8b0
          try clear c9
          try clear c9b0
          try clear c10
          try clear p10
          try clear q10
          try clear hx10
          try clear c12
          try clear c12b0
          try clear c12b1
          try clear c13
          try clear c13b0
          try clear c14
          try clear c14b0
          try clear c14b1
          try clear c15
          try clear c15b0
          try clear c15b1
          try clear p10
          try clear p2
          try clear q10
          obtain ⟨kq, x44_10, rfl, HA, HJ10, ⟨mc10, rfl⟩⟩ := hcut
          cases kq with
          | zero => exact absurd HA.out (by simp [varint_Get.j2])
          | succ kj10 =>
           have H := HA.out
           clear HA
           simp only [varint_Get.j2] at H
           by_cases c16 : x44_10 = true
           ·subst c16
            have H1 : (some (0, 0, 3)) = some (r1, r2, r3) := by rw [if_pos rfl] at H; exact H
            clear H
            have H := H1
            clear H1
            simp only [Option.some.injEq, Prod.mk.injEq] at H
            obtain ⟨rfl, rfl, rfl⟩ := H
            go_wp2
            go_ret3
            exact ⟨by first | rfl | (simp; done) | (simp only [← hji7] <;> (first | rfl | simp)) | (simp [*]; done), by repeat (first | exact Drawn0.refl _ | apply Drawn0.step)⟩
           ·replace c16 := Bool.eq_false_iff.mpr c16
            subst c16
            have H1 : (if 0 ≤ (wrap64 (7 * x8_2)) then (if (bt a0 (ji7)) < 128 then (some (Go.bits .or .u64 x7_2 (shl .u64 (IntKind.u64.wrap (Go.bits .and .u8 (bt a0 (ji7)) 127)) (wrap64 (7 * x8_2))), wrap64 ((wrap64 (a1 + x8_2)) + 1), 0)) else (varint_Get.l0 kj10 a0 a1 (Go.bits .or .u64 x7_2 (shl .u64 (IntKind.u64.wrap (Go.bits .and .u8 (bt a0 (ji7)) 127)) (wrap64 (7 * x8_2)))) (wrap64 (x8_2 + 1)))) else (none)) = some (r1, r2, r3) := by rw [if_neg (show ¬ (false = true) by decide)] at H; exact H
            clear H
            have H := H1
            clear H1
            obtain ⟨ji17, hji17⟩ : ∃ j_ : Int, (wrap64 (7 * x8_2)) = j_ := ⟨_, rfl⟩
            replace H : (if 0 ≤ (ji17) then (if (bt a0 (ji7)) < 128 then (some (Go.bits .or .u64 x7_2 (shl .u64 (IntKind.u64.wrap (Go.bits .and .u8 (bt a0 (ji7)) 127)) (ji17)), wrap64 ((wrap64 (a1 + x8_2)) + 1), 0)) else (varint_Get.l0 kj10 a0 a1 (Go.bits .or .u64 x7_2 (shl .u64 (IntKind.u64.wrap (Go.bits .and .u8 (bt a0 (ji7)) 127)) (ji17))) (wrap64 (x8_2 + 1)))) else (none)) = some (r1, r2, r3) := by first | (rw [hji17] at H; exact H) | (simp only [hji17] at H ⊢; exact H)
            have hji17w : (IntKind.i64.wrap (7 * x8_2)) = ji17 := (i64_w _).trans hji17
            by_cases c18 : 0 ≤ (ji17)
            ·rw [if_pos c18] at H
             have c18b0 := eq_true c18
             have c18b1 : decide (0 ≤ (ji17)) = true := decide_eq_true c18
             clear c18
             obtain ⟨ji19, hji19⟩ : ∃ j_ : Int, (shl .u64 (IntKind.u64.wrap (Go.bits .and .u8 (bt a0 (ji7)) 127)) (ji17)) = j_ := ⟨_, rfl⟩
             replace H : (if (bt a0 (ji7)) < 128 then (some (Go.bits .or .u64 x7_2 (ji19), wrap64 ((wrap64 (a1 + x8_2)) + 1), 0)) else (varint_Get.l0 kj10 a0 a1 (Go.bits .or .u64 x7_2 (ji19)) (wrap64 (x8_2 + 1)))) = some (r1, r2, r3) := by first | (rw [hji19] at H; exact H) | (simp only [hji19] at H ⊢; exact H)
             have hji19_ : (IntKind.u64.wrap ((IntKind.u64.wrap (Go.bits .and .u8 (bt a0 (ji7)) 127)) * 2 ^ min (ji17).toNat 64)) = ji19 := hji19
             have hji19z : (ji17) ≤ 64 → (IntKind.u64.wrap ((IntKind.u64.wrap (Go.bits .and .u8 (bt a0 (ji7)) 127)) * 2 ^ (ji17).toNat)) = ji19 := shl_small hji19
             by_cases c20 : (bt a0 (ji7)) < 128
             ·rw [if_pos c20] at H
              have c20b0 : decide ((bt a0 (ji7)) < 128) = true := decide_eq_true c20
              clear c20
              simp only [Option.some.injEq, Prod.mk.injEq] at H
              obtain ⟨rfl, rfl, rfl⟩ := H
              go_wp2
              go_ret3
              exact ⟨by first | rfl | (simp; done) | (simp only [← hji7, ← hji17, ← hji19] <;> (first | rfl | simp)) | (simp [*]; done), by repeat (first | exact Drawn0.refl _ | apply Drawn0.step)⟩
             ·rw [if_neg c20] at H
              have c20b0 : decide ((bt a0 (ji7)) < 128) = false := decide_eq_false c20
              clear c20
              have H' := Aside0.mk H
              clear H
              go_wp2
              go_roundg kj10
              case measure => have := HJ2.out; have := HK2.out; have := HJ10.out; omega
              case rel => exact ⟨(Go.bits .or .u64 x7_2 (ji19)), (wrap64 (x8_2 + 1)), (by first | rfl | (simp; done) | (simp only [← hji19] <;> (first | rfl | simp)) | (simp [*]; done)), zr, H', ⟨by have := HJ2.out; have := HK2.out; have := HJ10.out; omega⟩, by repeat (first | exact Drawn0.refl _ | apply Drawn0.step)⟩
            ·rw [if_neg c18] at H
             exact absurd H (by simp)
        ·rw [if_neg c9] at H
         exact absurd H (by simp)
       ·rw [if_neg c8] at H
        exact absurd H (by simp)
def cursor_Cursor_number.f (k : Nat) (s0_0 : ByteArray) (s0_1 : Int) (s0_2 : Option Int) : Option (Int × Int × ByteArray × Int × Option Int) := if s0_2.isNone = true then ((varint_Get.f k s0_0 s0_1).bind fun bt123 => ((cursor_Cursor_Fail.f s0_0 s0_1 none bt123.2.2).bind fun bt126 => (some (bt123.1, bt123.2.1, bt126.1, bt126.2.1, bt126.2.2)))) else (some (0, s0_1, s0_0, s0_1, some (s0_2.getD 0)))
theorem cursor_Cursor_number.mono : ∀ a0 a1 a2 k, LeO (cursor_Cursor_number.f k a0 a1 a2) (cursor_Cursor_number.f (k + 1) a0 a1 a2) := by
 intro a0 a1 a2 k
 unfold cursor_Cursor_number.f
 repeat' first
   | (with_reducible exact varint_Get.mono _ _ _)
   | (with_reducible exact LeO.refl _)
   | (with_reducible exact LeO.none _)
   | (with_reducible refine LeO.ite ?_ ?_)
   | (with_reducible refine LeO.bind ?_ (fun _ => ?_))
   | exact varint_Get.mono _ _ _
   | exact LeO.none _
   | refine LeO.ite ?_ ?_
   | refine LeO.bind ?_ (fun _ => ?_)
set_option maxHeartbeats 8000000 in
set_option maxRecDepth 100000 in
theorem cursor_Cursor_number.calls (k : Nat) (g : Nat) (s0_0 : ByteArray) (s0_1 : Int) (s0_2 : Option Int) (r1 : Int) (r2 : Int) (r3 : ByteArray) (r4 : Int) (r5 : Option Int) (w0 w : World) (hI : IsS122 w0 w g s0_0 s0_1 s0_2) (hB : Below w0.heap.size w0 w) (h : cursor_Cursor_number.f k s0_0 s0_1 s0_2 = some (r1, r2, r3, r4, r5)) :
  Calls Try.prog 100 #[.pointer (some ⟨g, 0, none⟩)] w fun e w' => e = .returned (.tuple #[.int .u64 r1, .int .i64 r2]) ∧ IsS122 w0 w' g r3 r4 r5 ∧ Below w0.heap.size w0 w' ∧ KeepBut w w' g none := by
 have hu77 := Try.underlying77
 have hu123 := Try.underlying123
 have HI0 := Aside0.mk hI
 have HK := Aside0.mk (KeepBut.refl w g none)
 have HL := Aside0.mk hB.size
 clear hI
 have HW0 := Aside0.mk hB.size
 have HB := Aside0.mk hB
 clear hB
 have H : (if s0_2.isNone = true then ((varint_Get.f k s0_0 s0_1).bind fun bt123 => ((cursor_Cursor_Fail.f s0_0 s0_1 none bt123.2.2).bind fun bt126 => (some (bt123.1, bt123.2.1, bt126.1, bt126.2.1, bt126.2.2)))) else (some (0, s0_1, s0_0, s0_1, some (s0_2.getD 0)))) = some (r1, r2, r3, r4, r5) := h
 clear h
 rcases s0_2 with _ | q122
 ·have H1 : ((varint_Get.f k s0_0 s0_1).bind fun bt123 => ((cursor_Cursor_Fail.f s0_0 s0_1 none bt123.2.2).bind fun bt126 => (some (bt123.1, bt123.2.1, bt126.1, bt126.2.1, bt126.2.2)))) = some (r1, r2, r3, r4, r5) := by rw [if_pos (show (none : Option Int).isNone = true by rfl)] at H; exact H
  clear H
  have H := H1
  clear H1
  try simp only [errW_none, errW_some]
  replace H := Option.bind_eq_some_iff.mp H
  obtain ⟨⟨t123, t124, t125⟩, A20, H⟩ := H
  replace H : ((cursor_Cursor_Fail.f s0_0 s0_1 none t125).bind fun bt126 => (some (t123, t124, bt126.1, bt126.2.1, bt126.2.2))) = some (r1, r2, r3, r4, r5) := H
  have A2 := Aside0.mk A20
  clear A20
  replace H := Option.bind_eq_some_iff.mp H
  obtain ⟨⟨t126, t127, t128⟩, A30, H⟩ := H
  replace H : (some (t123, t124, t126, t127, t128)) = some (r1, r2, r3, r4, r5) := H
  have A3 := Aside0.mk A30
  clear A30
  simp only [Option.some.injEq, Prod.mk.injEq] at H
  obtain ⟨rfl, rfl, rfl, rfl, rfl⟩ := H
  obtain ⟨HGz4, hgz4⟩ := HI0.out
  have hcz4_0 := cellS122_0 HGz4
  have hcz4_1 := cellS122_1 HGz4
  have hcz4_2 := cellS122_2 HGz4; (try simp only [errW_none, errW_some] at hcz4_2)
  have hfz4_0 := blk_frozen HGz4 0
  have hfz4_1 := blk_frozen HGz4 1
  have hfz4_2 := blk_frozen HGz4 2
  clear HGz4 hgz4
  go_enter Try.func100, Try.ntmps100
  go_wp2_with (first | (go_at_call 109; (with_reducible refine (varint_Get.calls k s0_0 s0_1 t123 t124 t125 _ A2.out).mono ?_); rintro e w' ⟨rfl, ⟨nd, rfl⟩⟩; (try first | exact ⟨rfl, _, World.drewN_drewN _ _ _⟩ | exact ⟨rfl, _, Eq.trans (World.drewN_drewN _ _ _) (congrArg (World.drewN _) (Nat.add_assoc _ _ _))⟩)) | (go_at_call 52; (with_reducible refine (cursor_Cursor_Fail.calls g s0_0 s0_1 none t125 t126 t127 t128 w0 _ ?side1 ?side2 A3.out).mono ?_); (case side1 => exact zi2); (case side2 => exact zb); rintro e w5 ⟨rfl, hi, hb, hk⟩; have n0_ := Aside0.mk (KeepBut.trans zk hk (.inl rfl)); have n1_ := Aside0.mk (hb); have n2_ := Aside0.mk (hi); clear HK; clear HB; clear HI0; have HK := n0_; have HB := n1_; have HI0 := n2_; clear n0_ n1_ n2_; (try clear hb); (try clear hb2); (try clear hk); (try clear hi); (try simp only [errW_none, errW_some])))
  repeat (go_quiet (first | (go_at_call 109; (with_reducible refine (varint_Get.calls k s0_0 s0_1 t123 t124 t125 _ A2.out).mono ?_); rintro e w' ⟨rfl, ⟨nd, rfl⟩⟩; (try first | exact ⟨rfl, _, World.drewN_drewN _ _ _⟩ | exact ⟨rfl, _, Eq.trans (World.drewN_drewN _ _ _) (congrArg (World.drewN _) (Nat.add_assoc _ _ _))⟩)) | (go_at_call 52; (with_reducible refine (cursor_Cursor_Fail.calls g s0_0 s0_1 none t125 t126 t127 t128 w0 _ ?side1 ?side2 A3.out).mono ?_); (case side1 => exact zi2); (case side2 => exact zb); rintro e w5 ⟨rfl, hi, hb, hk⟩; have n0_ := Aside0.mk (KeepBut.trans zk hk (.inl rfl)); have n1_ := Aside0.mk (hb); have n2_ := Aside0.mk (hi); clear HK; clear HB; clear HI0; have HK := n0_; have HB := n1_; have HI0 := n2_; clear n0_ n1_ n2_; (try clear hb); (try clear hb2); (try clear hk); (try clear hi); (try simp only [errW_none, errW_some]))); try go_wp2_with (first | (go_at_call 109; (with_reducible refine (varint_Get.calls k s0_0 s0_1 t123 t124 t125 _ A2.out).mono ?_); rintro e w' ⟨rfl, ⟨nd, rfl⟩⟩; (try first | exact ⟨rfl, _, World.drewN_drewN _ _ _⟩ | exact ⟨rfl, _, Eq.trans (World.drewN_drewN _ _ _) (congrArg (World.drewN _) (Nat.add_assoc _ _ _))⟩)) | (go_at_call 52; (with_reducible refine (cursor_Cursor_Fail.calls g s0_0 s0_1 none t125 t126 t127 t128 w0 _ ?side1 ?side2 A3.out).mono ?_); (case side1 => exact zi2); (case side2 => exact zb); rintro e w5 ⟨rfl, hi, hb, hk⟩; have n0_ := Aside0.mk (KeepBut.trans zk hk (.inl rfl)); have n1_ := Aside0.mk (hb); have n2_ := Aside0.mk (hi); clear HK; clear HB; clear HI0; have HK := n0_; have HB := n1_; have HI0 := n2_; clear n0_ n1_ n2_; (try clear hb); (try clear hb2); (try clear hk); (try clear hi); (try simp only [errW_none, errW_some]))))
  go_ret2
  exact ⟨ze, zi2, zb, zk⟩
 ·have H1 : (some (0, s0_1, s0_0, s0_1, some q122)) = some (r1, r2, r3, r4, r5) := by rw [if_neg (show ¬ (some q122).isNone = true by simp)] at H; exact H
  clear H
  have H := H1
  clear H1
  try simp only [errW_none, errW_some]
  simp only [Option.some.injEq, Prod.mk.injEq] at H
  obtain ⟨rfl, rfl, rfl, rfl, rfl⟩ := H
  obtain ⟨HGz6, hgz6⟩ := HI0.out
  have hcz6_0 := cellS122_0 HGz6
  have hcz6_1 := cellS122_1 HGz6
  have hcz6_2 := cellS122_2 HGz6; (try simp only [errW_none, errW_some] at hcz6_2)
  have hfz6_0 := blk_frozen HGz6 0
  have hfz6_1 := blk_frozen HGz6 1
  have hfz6_2 := blk_frozen HGz6 2
  clear HGz6 hgz6
  go_enter Try.func100, Try.ntmps100
  go_wp2
  repeat (go_quiet (fail); try go_wp2)
  go_ret2
  exact ⟨ze, zi2, zb, zk⟩
def cursor_Cursor_Uint.j0 : Nat → Int → Int → Bool → ByteArray → Int → Option Int → Option (Int × ByteArray × Int × Option Int)
 | 0, _, _, _, _, _, _ => none
 | k + 1, x5, x6, x22, x1000, x1001, x1002 => if x22 = true then ((cursor_Cursor_Fail.f x1000 x1001 x1002 19).bind fun bt135 => (if bt135.2.2.isNone = true then (some (wrap64 (x5), bt135.1, x6, none)) else (some (0, bt135.1, bt135.2.1, some (bt135.2.2.getD 0))))) else (if x1002.isNone = true then (some (wrap64 (x5), x1000, x6, none)) else (some (0, x1000, x1001, some (x1002.getD 0))))
def cursor_Cursor_Uint.f (k : Nat) (s0_0 : ByteArray) (s0_1 : Int) (s0_2 : Option Int) (a1 : Int) : Option (Int × ByteArray × Int × Option Int) := (cursor_Cursor_number.f k s0_0 s0_1 s0_2).bind fun bt129 => (if bt129.2.2.2.2.isNone = true then (cursor_Cursor_Uint.j0 k bt129.1 bt129.2.1 (decide (bt129.1 > (mn a1 16777216))) bt129.2.2.1 bt129.2.2.2.1 none) else (cursor_Cursor_Uint.j0 k bt129.1 bt129.2.1 false bt129.2.2.1 bt129.2.2.2.1 (some (bt129.2.2.2.2.getD 0))))
theorem cursor_Cursor_Uint.mono_l : ∀ k, (∀ y0 y1 y2 y3 y4 y5, LeO (cursor_Cursor_Uint.j0 k y0 y1 y2 y3 y4 y5) (cursor_Cursor_Uint.j0 (k + 1) y0 y1 y2 y3 y4 y5))
 | 0 => fun _ _ _ _ _ _ r h => by simp [cursor_Cursor_Uint.j0] at h
 | k + 1 => by
  have ih0 := cursor_Cursor_Uint.mono_l k
  ·intro y0 y1 y2 y3 y4 y5
   unfold cursor_Cursor_Uint.j0
   repeat' first
   | (with_reducible exact ih0 _ _ _ _ _ _)
   | (with_reducible exact cursor_Cursor_number.mono _ _ _ _)
   | (with_reducible exact LeO.refl _)
   | (with_reducible exact LeO.none _)
   | (with_reducible refine LeO.ite ?_ ?_)
   | (with_reducible refine LeO.bind ?_ (fun _ => ?_))
   | exact ih0 _ _ _ _ _ _
   | exact cursor_Cursor_number.mono _ _ _ _
   | exact LeO.none _
   | refine LeO.ite ?_ ?_
   | refine LeO.bind ?_ (fun _ => ?_)
theorem cursor_Cursor_Uint.mono : ∀ a0 a1 a2 a3 k, LeO (cursor_Cursor_Uint.f k a0 a1 a2 a3) (cursor_Cursor_Uint.f (k + 1) a0 a1 a2 a3) := by
 intro a0 a1 a2 a3 k
 have ih0 := cursor_Cursor_Uint.mono_l k
 unfold cursor_Cursor_Uint.f
 repeat' first
   | (with_reducible exact ih0 _ _ _ _ _ _)
   | (with_reducible exact cursor_Cursor_number.mono _ _ _ _)
   | (with_reducible exact LeO.refl _)
   | (with_reducible exact LeO.none _)
   | (with_reducible refine LeO.ite ?_ ?_)
   | (with_reducible refine LeO.bind ?_ (fun _ => ?_))
   | exact ih0 _ _ _ _ _ _
   | exact cursor_Cursor_number.mono _ _ _ _
   | exact LeO.none _
   | refine LeO.ite ?_ ?_
   | refine LeO.bind ?_ (fun _ => ?_)
set_option maxHeartbeats 8000000 in
set_option maxRecDepth 100000 in
theorem cursor_Cursor_Uint.calls (k : Nat) (g : Nat) (s0_0 : ByteArray) (s0_1 : Int) (s0_2 : Option Int) (a1 : Int) (r1 : Int) (r2 : ByteArray) (r3 : Int) (r4 : Option Int) (w0 w : World) (hI : IsS122 w0 w g s0_0 s0_1 s0_2) (hB : Below w0.heap.size w0 w) (h : cursor_Cursor_Uint.f k s0_0 s0_1 s0_2 a1 = some (r1, r2, r3, r4)) :
  Calls Try.prog 73 #[.pointer (some ⟨g, 0, none⟩), .int .u64 a1] w fun e w' => e = .returned (.int .i64 r1) ∧ IsS122 w0 w' g r2 r3 r4 ∧ Below w0.heap.size w0 w' ∧ KeepBut w w' g none := by
 have hu77 := Try.underlying77
 have hu123 := Try.underlying123
 have HI0 := Aside0.mk hI
 have HK := Aside0.mk (KeepBut.refl w g none)
 have HL := Aside0.mk hB.size
 clear hI
 have HW0 := Aside0.mk hB.size
 have HB := Aside0.mk hB
 clear hB
 have H : ((cursor_Cursor_number.f k s0_0 s0_1 s0_2).bind fun bt129 => (if bt129.2.2.2.2.isNone = true then (cursor_Cursor_Uint.j0 k bt129.1 bt129.2.1 (decide (bt129.1 > (mn a1 16777216))) bt129.2.2.1 bt129.2.2.2.1 none) else (cursor_Cursor_Uint.j0 k bt129.1 bt129.2.1 false bt129.2.2.1 bt129.2.2.2.1 (some (bt129.2.2.2.2.getD 0))))) = some (r1, r2, r3, r4) := h
 clear h
 replace H := Option.bind_eq_some_iff.mp H
 obtain ⟨⟨t129, t130, t131, t132, t133⟩, A30, H⟩ := H
 replace H : (if t133.isNone = true then (cursor_Cursor_Uint.j0 k t129 t130 (decide (t129 > (mn a1 16777216))) t131 t132 none) else (cursor_Cursor_Uint.j0 k t129 t130 false t131 t132 (some (t133.getD 0)))) = some (r1, r2, r3, r4) := H
 have A3 := Aside0.mk A30
 clear A30
 have HC4 := Aside0.mk H
 clear H
 go_enter Try.func73, Try.ntmps73
 go_upto_region 2 with (first | ((with_reducible refine gate_callee (f := 100) rfl ?_); refine goesL_ (some 9) rfl rfl Try.func100 (by kernel_rfl) rfl #[.pointer (some ⟨g, 0, none⟩)] rfl zm ?_; (with_reducible refine (cursor_Cursor_number.calls k g s0_0 s0_1 s0_2 t129 t130 t131 t132 t133 w0 _ ?side1 ?side2 A3.out).mono ?_); (case side1 => exact zi2); (case side2 => exact zb); rintro e w5 ⟨rfl, hi, hb, hk⟩; refine ⟨_, rfl, ?_⟩; have n0_ := Aside0.mk (KeepBut.trans zk hk (.inl rfl)); have n1_ := Aside0.mk (hb); have n2_ := Aside0.mk (hi); clear HK; clear HB; clear HI0; have HK := n0_; have HB := n1_; have HI0 := n2_; clear n0_ n1_ n2_; (try clear hb); (try clear hb2); (try clear hk); (try clear hi); (try simp only [errW_none, errW_some])))
 (try simp only [Act.put, zq1, zq2, zq3])
 go_cut [22] (fun v22 wc => ∃ (kq : Nat) (x22_3 : Bool), v22 = .bool x22_3 ∧ Aside0 (cursor_Cursor_Uint.j0 kq t129 t130 x22_3 t131 t132 t133 = some (r1, r2, r3, r4)) ∧ Aside0 (kq ≤ k) ∧ Aside0 (IsS122 w0 wc g t131 t132 t133) ∧ Aside0 (KeepBut w wc g none) ∧ Aside0 (Below w0.heap.size w0 wc))
 case first =>
  have H := HC4.out
  clear HC4
  rcases t133 with _ | q134
  ·have H1 : (cursor_Cursor_Uint.j0 k t129 t130 (decide (t129 > (mn a1 16777216))) t131 t132 none) = some (r1, r2, r3, r4) := by rw [if_pos (show (none : Option Int).isNone = true by rfl)] at H; exact H
   clear H
   have H := H1
   clear H1
   try simp only [errW_none, errW_some]
   obtain ⟨ji6, hji6⟩ : ∃ j_ : Int, (mn a1 16777216) = j_ := ⟨_, rfl⟩
   replace H : (cursor_Cursor_Uint.j0 k t129 t130 (decide (t129 > (ji6))) t131 t132 none) = some (r1, r2, r3, r4) := by first | (rw [hji6] at H; exact H) | (simp only [hji6] at H ⊢; exact H)
   (try (have hji6h : ji6 ≤ 16777216 := by (rw [← hji6]; unfold mn; (repeat' split) <;> omega)))
   (try (have hji6g : ji6 ≤ 64 := by omega))
   have hji6_ : (if 16777216 < a1 then 16777216 else a1) = ji6 := hji6
   have H' := Aside0.mk H
   clear H
   obtain ⟨HGz7, hgz7⟩ := HI0.out
   have hcz7_0 := cellS122_0 HGz7
   have hcz7_1 := cellS122_1 HGz7
   have hcz7_2 := cellS122_2 HGz7; (try simp only [errW_none, errW_some] at hcz7_2)
   have hfz7_0 := blk_frozen HGz7 0
   have hfz7_1 := blk_frozen HGz7 1
   have hfz7_2 := blk_frozen HGz7 2
   clear HGz7 hgz7
   go_wp2
   go_meet
   case rel => exact ⟨_, (decide (t129 > (ji6))), (by first | rfl | (simp; done) | (simp only [← hji6] <;> (first | rfl | simp)) | (simp [*]; done)), H', ⟨by first | omega | exact Nat.le_refl _⟩, ⟨zi2⟩, ⟨zk⟩, ⟨zb⟩⟩
  ·have H1 : (cursor_Cursor_Uint.j0 k t129 t130 false t131 t132 (some q134)) = some (r1, r2, r3, r4) := by rw [if_neg (show ¬ (some q134).isNone = true by simp)] at H; exact H
   clear H
   have H := H1
   clear H1
   try simp only [errW_none, errW_some]
   have H' := Aside0.mk H
   clear H
   obtain ⟨HGz8, hgz8⟩ := HI0.out
   have hcz8_0 := cellS122_0 HGz8
   have hcz8_1 := cellS122_1 HGz8
   have hcz8_2 := cellS122_2 HGz8; (try simp only [errW_none, errW_some] at hcz8_2)
   have hfz8_0 := blk_frozen HGz8 0
   have hfz8_1 := blk_frozen HGz8 1
   have hfz8_2 := blk_frozen HGz8 2
   clear HGz8 hgz8
   go_wp2
   go_meet
   case rel => exact ⟨_, (false), zr, H', ⟨by first | omega | exact Nat.le_refl _⟩, ⟨zi2⟩, ⟨zk⟩, ⟨zb⟩⟩
 case rest =>
  clear HC4
  try clear c1
  try clear q1
  try clear p2
  try clear c7
  try clear hcz7_0
  try clear hcz7_1
  try clear hcz7_2
  try clear hcz8_0
  try clear hcz8_1
  try clear hcz8_2
  try clear hfz7_0
  try clear hfz7_1
  try clear hfz7_2
  try clear hfz8_0
  try clear hfz8_1
  try clear hfz8_2
  try clear q134
  obtain ⟨kq, x22_3, rfl, HA, HJ3, HI0, HK, HB⟩ := hcut
  cases kq with
  | zero => exact absurd HA.out (by simp [cursor_Cursor_Uint.j0])
  | succ kj3 =>
   have H := HA.out
   clear HA
   simp only [cursor_Cursor_Uint.j0] at H
   by_cases c9 : x22_3 = true
   ·subst c9
    have H1 : ((cursor_Cursor_Fail.f t131 t132 t133 19).bind fun bt135 => (if bt135.2.2.isNone = true then (some (wrap64 (t129), bt135.1, t130, none)) else (some (0, bt135.1, bt135.2.1, some (bt135.2.2.getD 0))))) = some (r1, r2, r3, r4) := by rw [if_pos rfl] at H; exact H
    clear H
    have H := H1
    clear H1
    replace H := Option.bind_eq_some_iff.mp H
    obtain ⟨⟨t135, t136, t137⟩, A100, H⟩ := H
    replace H : (if t137.isNone = true then (some (wrap64 (t129), t135, t130, none)) else (some (0, t135, t136, some (t137.getD 0)))) = some (r1, r2, r3, r4) := H
    have A10 := Aside0.mk A100
    clear A100
    rcases t137 with _ | q138
    ·have H1 : (some (wrap64 (t129), t135, t130, none)) = some (r1, r2, r3, r4) := by rw [if_pos (show (none : Option Int).isNone = true by rfl)] at H; exact H
     clear H
     have H := H1
     clear H1
     try simp only [errW_none, errW_some]
     simp only [Option.some.injEq, Prod.mk.injEq] at H
     obtain ⟨rfl, rfl, rfl, rfl⟩ := H
     go_wp2_with (first | ((with_reducible refine gate_callee (f := 52) rfl ?_); refine goesL_ (some 24) rfl rfl Try.func52 (by kernel_rfl) rfl #[.pointer (some ⟨g, 0, none⟩), .int .i64 19] rfl zm ?_; (with_reducible refine (cursor_Cursor_Fail.calls g t131 t132 t133 19 t135 t136 none w0 _ ?side1 ?side2 A10.out).mono ?_); (case side1 => exact zi2); (case side2 => exact zb); rintro e w11 ⟨rfl, hi, hb, hk⟩; refine ⟨_, rfl, ?_⟩; have n0_ := Aside0.mk (KeepBut.trans zk hk (.inl rfl)); have n1_ := Aside0.mk (hb); have n2_ := Aside0.mk (hi); clear HK; clear HB; clear HI0; have HK := n0_; have HB := n1_; have HI0 := n2_; clear n0_ n1_ n2_; (try clear hb); (try clear hb2); (try clear hk); (try clear hi); (try simp only [errW_none, errW_some]); obtain ⟨HGz12, hgz12⟩ := HI0.out; have hcz12_0 := cellS122_0 HGz12; have hcz12_1 := cellS122_1 HGz12; have hcz12_2 := cellS122_2 HGz12; (try simp only [errW_none, errW_some] at hcz12_2); have hfz12_0 := blk_frozen HGz12 0; have hfz12_1 := blk_frozen HGz12 1; have hfz12_2 := blk_frozen HGz12 2; clear HGz12 hgz12))
     go_ret
     exact ⟨ze, zi2, zb, zk⟩
    ·have H1 : (some (0, t135, t136, some q138)) = some (r1, r2, r3, r4) := by rw [if_neg (show ¬ (some q138).isNone = true by simp)] at H; exact H
     clear H
     have H := H1
     clear H1
     try simp only [errW_none, errW_some]
     simp only [Option.some.injEq, Prod.mk.injEq] at H
     obtain ⟨rfl, rfl, rfl, rfl⟩ := H
     go_wp2_with (first | ((with_reducible refine gate_callee (f := 52) rfl ?_); refine goesL_ (some 24) rfl rfl Try.func52 (by kernel_rfl) rfl #[.pointer (some ⟨g, 0, none⟩), .int .i64 19] rfl zm ?_; (with_reducible refine (cursor_Cursor_Fail.calls g t131 t132 t133 19 t135 t136 (some q138) w0 _ ?side1 ?side2 A10.out).mono ?_); (case side1 => exact zi2); (case side2 => exact zb); rintro e w13 ⟨rfl, hi, hb, hk⟩; refine ⟨_, rfl, ?_⟩; have n0_ := Aside0.mk (KeepBut.trans zk hk (.inl rfl)); have n1_ := Aside0.mk (hb); have n2_ := Aside0.mk (hi); clear HK; clear HB; clear HI0; have HK := n0_; have HB := n1_; have HI0 := n2_; clear n0_ n1_ n2_; (try clear hb); (try clear hb2); (try clear hk); (try clear hi); (try simp only [errW_none, errW_some]); obtain ⟨HGz14, hgz14⟩ := HI0.out; have hcz14_0 := cellS122_0 HGz14; have hcz14_1 := cellS122_1 HGz14; have hcz14_2 := cellS122_2 HGz14; (try simp only [errW_none, errW_some] at hcz14_2); have hfz14_0 := blk_frozen HGz14 0; have hfz14_1 := blk_frozen HGz14 1; have hfz14_2 := blk_frozen HGz14 2; clear HGz14 hgz14))
     go_ret
     exact ⟨ze, zi2, zb, zk⟩
   ·replace c9 := Bool.eq_false_iff.mpr c9
    subst c9
    have H1 : (if t133.isNone = true then (some (wrap64 (t129), t131, t130, none)) else (some (0, t131, t132, some (t133.getD 0)))) = some (r1, r2, r3, r4) := by rw [if_neg (show ¬ (false = true) by decide)] at H; exact H
    clear H
    have H := H1
    clear H1
    rcases t133 with _ | q139
    ·have H1 : (some (wrap64 (t129), t131, t130, none)) = some (r1, r2, r3, r4) := by rw [if_pos (show (none : Option Int).isNone = true by rfl)] at H; exact H
     clear H
     have H := H1
     clear H1
     try simp only [errW_none, errW_some]
     simp only [Option.some.injEq, Prod.mk.injEq] at H
     obtain ⟨rfl, rfl, rfl, rfl⟩ := H
     obtain ⟨HGz15, hgz15⟩ := HI0.out
     have hcz15_0 := cellS122_0 HGz15
     have hcz15_1 := cellS122_1 HGz15
     have hcz15_2 := cellS122_2 HGz15; (try simp only [errW_none, errW_some] at hcz15_2)
     have hfz15_0 := blk_frozen HGz15 0
     have hfz15_1 := blk_frozen HGz15 1
     have hfz15_2 := blk_frozen HGz15 2
     clear HGz15 hgz15
     go_wp2
     go_ret
     exact ⟨ze, zi2, zb, zk⟩
    ·have H1 : (some (0, t131, t132, some q139)) = some (r1, r2, r3, r4) := by rw [if_neg (show ¬ (some q139).isNone = true by simp)] at H; exact H
     clear H
     have H := H1
     clear H1
     try simp only [errW_none, errW_some]
     simp only [Option.some.injEq, Prod.mk.injEq] at H
     obtain ⟨rfl, rfl, rfl, rfl⟩ := H
     obtain ⟨HGz16, hgz16⟩ := HI0.out
     have hcz16_0 := cellS122_0 HGz16
     have hcz16_1 := cellS122_1 HGz16
     have hcz16_2 := cellS122_2 HGz16; (try simp only [errW_none, errW_some] at hcz16_2)
     have hfz16_0 := blk_frozen HGz16 0
     have hfz16_1 := blk_frozen HGz16 1
     have hfz16_2 := blk_frozen HGz16 2
     clear HGz16 hgz16
     go_wp2
     go_ret
     exact ⟨ze, zi2, zb, zk⟩
end Go.Proofs.Ytdjpelcdijpihaa.PrintF
