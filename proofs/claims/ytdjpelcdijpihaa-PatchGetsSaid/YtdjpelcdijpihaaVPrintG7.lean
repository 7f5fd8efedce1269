/- A part of the proof of the claim: what it uses of the text PrintG7 (printed by xprint.py). -/
import Derived.Test.YtdjpelcdijpihaaVZ
import Derived.Test.YtdjpelcdijpihaaShort
import Derived.Test.YtdjpelcdijpihaaVPrintC1
import Derived.Test.YtdjpelcdijpihaaVPrintF0
import Derived.Test.YtdjpelcdijpihaaVPrintG1
namespace Go.Proofs.Ytdjpelcdijpihaa.PrintF
open Go.Proofs.Ytdjpelcdijpihaa.Print
open Go.RowKit Go.Proofs.YtdjpelcdijpihaaW.PrintWords Go.Proofs.YtdjpelcdijpihaaW.PrintLast Go.Proofs.YtdjpelcdijpihaaW.PrintMore
attribute [local go_sem] max2_int min2_int max_two min_two
set_option linter.unusedVariables false
set_option linter.unusedSimpArgs false
attribute [local go_sem high] eqA127 eqA138
mutual
def dioramaref04_Get.j0 : Nat → ByteArray → Bool → Option (Int × (List (S52)) × Int)
 | 0, _, _ => none
 | k + 1, x1, x26 => if x26 = true then (some (0, ([] : List (S52)), 6)) else (if (x1.size : Int) = 4 then (some (0, ([] : List (S52)), 2)) else (if 4 < (x1.size : Int) then (if (bt x1 4) = 0 then (some (0, ([] : List (S52)), 7)) else (dioramaref04_Get.l0 k x1 (([] : List (S52))) 5)) else (none)))
def dioramaref04_Get.l0 : Nat → ByteArray → List (S52) → Int → Option (Int × (List (S52)) × Int)
 | 0, _, _, _ => none
 | k + 1, x1, x7, x8 => if x8 < (x1.size : Int) then (if (x7.length : Int) = 8 then (some (0, ([] : List (S52)), 8)) else (if 0 ≤ x8 then (if (bt x1 x8) = 0 then (some (0, ([] : List (S52)), 4)) else ((dioramaref01_Get.f k x1 (wrap64 (x8 + 1))).bind fun bt337 => (if bt337.2.2 = 0 then (if bt337.1 > 16777216 then (some (0, ([] : List (S52)), 19)) else (if (wrap64 ((x1.size : Int) - (wrap64 (bt337.2.1 + (wrap64 (bt337.1)))))) < 4 then (some (0, ([] : List (S52)), 2)) else (if 0 ≤ (wrap64 (bt337.2.1 + (wrap64 (bt337.1)))) then (if (wrap64 (bt337.2.1 + (wrap64 (bt337.1)))) ≤ (wrap64 ((wrap64 (bt337.2.1 + (wrap64 (bt337.1)))) + 4)) then (if (wrap64 ((wrap64 (bt337.2.1 + (wrap64 (bt337.1)))) + 4)) ≤ (x1.size : Int) then (if 0 ≤ bt337.2.1 then (if bt337.2.1 ≤ (wrap64 (bt337.2.1 + (wrap64 (bt337.1)))) then (if (wrap64 (bt337.2.1 + (wrap64 (bt337.1)))) ≤ (x1.size : Int) then ((dioramaref03_Sum.f k (x1.extract (bt337.2.1 : Int).toNat ((wrap64 (bt337.2.1 + (wrap64 (bt337.1)))) : Int).toNat)).bind fun t340 => ((dioramaref03_Put.f k t340).bind fun t341 => (if (x1.extract ((wrap64 (bt337.2.1 + (wrap64 (bt337.1)))) : Int).toNat ((wrap64 ((wrap64 (bt337.2.1 + (wrap64 (bt337.1)))) + 4)) : Int).toNat).toList = t341.toList then (if x7.length < 5864062014805 then (dioramaref04_Get.l0 k x1 (x7 ++ [(⟨wrap64 (bt x1 x8), x1.extract (bt337.2.1 : Int).toNat ((wrap64 (bt337.2.1 + (wrap64 (bt337.1)))) : Int).toNat⟩ : S52)]) (wrap64 ((wrap64 (bt337.2.1 + (wrap64 (bt337.1)))) + 4))) else (none)) else (some (0, ([] : List (S52)), 5))))) else (none)) else (none)) else (none)) else (none)) else (none)) else (none)))) else (some (0, ([] : List (S52)), bt337.2.2))))) else (none))) else (if 4 < (x1.size : Int) then (some (wrap64 (bt x1 4), x7, 0)) else (none))
end
def dioramaref04_Get.f (k : Nat) (a0 : ByteArray) (a1 : ByteArray) : Option (Int × (List (S52)) × Int) := if (a0.size : Int) = 4 then (if (a1.size : Int) < 4 then (dioramaref04_Get.j0 k a1 true) else (if 0 ≤ 4 then (if 4 ≤ (a1.size : Int) then (dioramaref04_Get.j0 k a1 ((a1.extract 0 4).toList != a0.toList)) else (none)) else (none))) else (dioramaref04_Get.j0 k a1 true)
def dioramaref04_Get.T22 : Bool × List (List Nat × List Nat) := (true, [([], []), ([], []), ([], []), ([2], [2]), ([0, 1, 3], [0, 1, 3]), ([], []), ([], []), ([], []), ([5, 6, 7], [5, 6, 7]), ([8], [8]), ([9, 9], [9]), ([4, 10], [4, 10])])
def dioramaref04_Get.B22 : List Nat := [0, 0, 0, 4, 15, 0, 0, 0, 224, 480, 992, 2047]
theorem dioramaref04_Get.tab22 : rtab .any (opsOf Try.f33 22) = dioramaref04_Get.T22 := by kernel_rfl
theorem dioramaref04_Get.bits22 : waitsOk dioramaref04_Get.T22.2 dioramaref04_Get.B22 = true := by kernel_rfl
def dioramaref04_Get.T24 : Bool × List (List Nat × List Nat) := (true, [([], []), ([], []), ([], []), ([1, 2], [1, 2]), ([3], [3]), ([], []), ([], []), ([], []), ([5, 6, 7], [5, 6, 7]), ([4, 8], [4, 8]), ([9], [9]), ([0, 10], [0, 10]), ([11, 11, 0, 1, 2, 3, 4, 5, 6, 7, 8, 9, 10, 11], [0, 11])])
def dioramaref04_Get.B24 : List Nat := [0, 0, 0, 6, 14, 0, 0, 0, 224, 510, 1022, 2047, 4095]
theorem dioramaref04_Get.tab24 : rtab .any (opsOf Try.f33 24) = dioramaref04_Get.T24 := by kernel_rfl
theorem dioramaref04_Get.bits24 : waitsOk dioramaref04_Get.T24.2 dioramaref04_Get.B24 = true := by kernel_rfl
set_option maxHeartbeats 8000000 in
set_option maxRecDepth 100000 in
theorem dioramaref04_Get.calls (k : Nat) (a0 : ByteArray) (a1 : ByteArray) (r1 : Int) (r2 : List (S52)) (r3 : Int) (w : World) (h : dioramaref04_Get.f k a0 a1 = some (r1, r2, r3)) :
  Calls Try.prog 33 #[.string a0, .string a1] w fun e w' => ∃ v1_ : Value, e = .returned (.tuple #[.int .i64 r1, v1_, .int .i64 r3]) ∧ Kd.R k52 52 w' w.heap.size (fun _ => True) v1_ r2 ∧ Below w.heap.size w w' := by
 have hu52 := Try.underlying52
 have HB := Aside0.mk (Below.refl w.heap.size w)
 have H : (if (a0.size : Int) = 4 then (if (a1.size : Int) < 4 then (dioramaref04_Get.j0 k a1 true) else (if 0 ≤ 4 then (if 4 ≤ (a1.size : Int) then (dioramaref04_Get.j0 k a1 ((a1.extract 0 4).toList != a0.toList)) else (none)) else (none))) else (dioramaref04_Get.j0 k a1 true)) = some (r1, r2, r3) := h
 clear h
 have HC3 := Aside0.mk H
 clear H
 go_enter Try.func33, Try.ntmps33
 go_upto_region 1 with (fail)
 go_cut [26] (fun v26 wc => ∃ (kq : Nat) (x26_2 : Bool), v26 = .bool x26_2 ∧ Aside0 (dioramaref04_Get.j0 kq a1 x26_2 = some (r1, r2, r3)) ∧ Aside0 (kq ≤ k) ∧ Aside0 (Below w.heap.size w wc))
 case first =>
  have H := HC3.out
  clear HC3
  by_cases c4 : (a0.size : Int) = 4
  ·rw [if_pos c4] at H
   have c4b0 : ((a0.size : Int) == 4) = true := beq_iff_eq.mpr c4
   have c4b1 : ((a0.size : Int) != 4) = false := bne_eq_false_iff_eq.mpr c4
   clear c4
   (first | rw [c4b0] | (simp only [i64_w]; rw [c4b0]) | skip)
   by_cases c5 : (a1.size : Int) < 4
   ·rw [if_pos c5] at H
    have c5b0 : decide ((a1.size : Int) < 4) = true := decide_eq_true c5
    have c5b1 : decide (a1.size < 4) = true := decide_eq_true (by omega)
    clear c5
    have H' := Aside0.mk H
    clear H
    go_wp2
    go_meet
    case rel => exact ⟨_, (true), zr, H', ⟨by first | omega | exact Nat.le_refl _⟩, ⟨zb⟩⟩
   ·rw [if_neg c5] at H
    have c5b0 : decide ((a1.size : Int) < 4) = false := decide_eq_false c5
    have c5b1 : decide (a1.size < 4) = false := decide_eq_false (by omega)
    clear c5
    by_cases c6 : 0 ≤ 4
    ·rw [if_pos c6] at H
     have c6b0 := eq_true c6
     have c6b1 : decide (0 ≤ 4) = true := decide_eq_true c6
     clear c6
     by_cases c7 : 4 ≤ (a1.size : Int)
     ·rw [if_pos c7] at H
      have c7b0 := eq_true c7
      have c7b1 : decide (4 ≤ (a1.size : Int)) = true := decide_eq_true c7
      clear c7
      have H' := Aside0.mk H
      clear H
      go_wp2
      go_meet
      case rel => exact ⟨_, (((a1.extract 0 4).toList != a0.toList)), zr, H', ⟨by first | omega | exact Nat.le_refl _⟩, ⟨zb⟩⟩
     ·rw [if_neg c7] at H
      exact absurd H (by simp)
    ·rw [if_neg c6] at H
     exact absurd H (by simp)
  ·rw [if_neg c4] at H
   have c4b0 : ((a0.size : Int) == 4) = false := beq_eq_false_iff_ne.mpr c4
   have c4b1 : ((a0.size : Int) != 4) = true := bne_iff_ne.mpr c4
   (first | rw [c4b0] | (simp only [i64_w]; rw [c4b0]) | skip)
   have H' := Aside0.mk H
   clear H
   go_wp2
   go_meet
   case rel => exact ⟨_, (true), zr, H', ⟨by first | omega | exact Nat.le_refl _⟩, ⟨zb⟩⟩
 case rest =>
  clear HC3
  try clear p2
  try clear c3
  try clear c4
  try clear c4b0
  try clear c4b1
  try clear c5
  try clear c5b0
  try clear c5b1
  try clear c6
  try clear c6b0
  try clear c6b1
  try clear c7
  try clear c7b0
  try clear c7b1
  obtain ⟨kq, x26_2, rfl, HA, HJ2, HB⟩ := hcut
  cases kq with
  | zero => exact absurd HA.out (by simp [dioramaref04_Get.j0])
  | succ kj2 =>
   have H := HA.out
   clear HA
   simp only [dioramaref04_Get.j0] at H
   by_cases c8 : x26_2 = true
   ·subst c8
    have H1 : (some (0, ([] : List (S52)), 6)) = some (r1, r2, r3) := by rw [if_pos rfl] at H; exact H
    clear H
    have H := H1
    clear H1
    simp only [Option.some.injEq, Prod.mk.injEq] at H
    obtain ⟨rfl, rfl, rfl⟩ := H
    go_wp2
    go_ret3
    exact ⟨_, by first | rfl | (simp [errW_none, errW_some] <;> rfl) | (simp [*, errW_none, errW_some] <;> rfl), by first | exact Kd.R_nil _ _ _ _ _ | exact Kd.N_nil _ _ _ _ _ | exact Kd.V_nil _ _ _ _ _ | exact Kd.Q_nil _ _ _ _ _ | exact Kd.S_nil _ _ _ _ _, zb⟩
   ·replace c8 := Bool.eq_false_iff.mpr c8
    subst c8
    have H1 : (if (a1.size : Int) = 4 then (some (0, ([] : List (S52)), 2)) else (if 4 < (a1.size : Int) then (if (bt a1 4) = 0 then (some (0, ([] : List (S52)), 7)) else (dioramaref04_Get.l0 kj2 a1 (([] : List (S52))) 5)) else (none))) = some (r1, r2, r3) := by rw [if_neg (show ¬ (false = true) by decide)] at H; exact H
    clear H
    have H := H1
    clear H1
    by_cases c9 : (a1.size : Int) = 4
    ·rw [if_pos c9] at H
     have c9b0 : ((a1.size : Int) == 4) = true := beq_iff_eq.mpr c9
     have c9b1 : ((a1.size : Int) != 4) = false := bne_eq_false_iff_eq.mpr c9
     clear c9
     simp only [Option.some.injEq, Prod.mk.injEq] at H
     obtain ⟨rfl, rfl, rfl⟩ := H
     go_wp2
     go_ret3
     exact ⟨_, by first | rfl | (simp [errW_none, errW_some] <;> rfl) | (simp [*, errW_none, errW_some] <;> rfl), by first | exact Kd.R_nil _ _ _ _ _ | exact Kd.N_nil _ _ _ _ _ | exact Kd.V_nil _ _ _ _ _ | exact Kd.Q_nil _ _ _ _ _ | exact Kd.S_nil _ _ _ _ _, zb⟩
    ·rw [if_neg c9] at H
     have c9b0 : ((a1.size : Int) == 4) = false := beq_eq_false_iff_ne.mpr c9
     have c9b1 : ((a1.size : Int) != 4) = true := bne_iff_ne.mpr c9
     by_cases c10 : 4 < (a1.size : Int)
     ·rw [if_pos c10] at H
      have c10b0 : decide (4 < (a1.size : Int)) = true := decide_eq_true c10
      have c10b1 : decide (4 < a1.size) = true := decide_eq_true (by omega)
      clear c10
      by_cases c12 : (bt a1 4) = 0
      ·rw [if_pos c12] at H
       have c12b0 : ((bt a1 4) == 0) = true := beq_iff_eq.mpr c12
       have c12b1 : ((bt a1 4) != 0) = false := bne_eq_false_iff_eq.mpr c12
       clear c12
       simp only [Option.some.injEq, Prod.mk.injEq] at H
       obtain ⟨rfl, rfl, rfl⟩ := H
       have p11 : 0 ≤ (4 : Int) := (by omega)
       have q11 : 4 < a1.size := (by have : (4 : Int) < (a1.size : Int) := of_decide_eq_true (by first | (with_reducible assumption) | assumption); omega)
       have hx11 : ∀ h : 4 < a1.size, ((a1[4]'h).toNat : Int) = bt a1 4 := bt_at a1 4
       clear p11
       have qi11 : (4 < (a1.size : Int)) = True := eq_true (of_decide_eq_true (by first | (with_reducible assumption) | assumption))
       replace q11 := eq_true q11
       go_wp2
       go_ret3
       exact ⟨_, by first | rfl | (simp [errW_none, errW_some] <;> rfl) | (simp [*, errW_none, errW_some] <;> rfl), by first | exact Kd.R_nil _ _ _ _ _ | exact Kd.N_nil _ _ _ _ _ | exact Kd.V_nil _ _ _ _ _ | exact Kd.Q_nil _ _ _ _ _ | exact Kd.S_nil _ _ _ _ _, zb⟩
      ·rw [if_neg c12] at H
       have c12b0 : ((bt a1 4) == 0) = false := beq_eq_false_iff_ne.mpr c12
       have c12b1 : ((bt a1 4) != 0) = true := bne_iff_ne.mpr c12
       obtain ⟨y334, hy334⟩ : ∃ y_ : List (S52), y_ = (([] : List (S52))) := ⟨_, rfl⟩
       replace H : (dioramaref04_Get.l0 kj2 a1 y334 5) = some (r1, r2, r3) := by first | (rw [hy334]; with_reducible exact H) | (have H2_ := (Option.bind_some _ _).symm.trans H; rw [hy334]; with_reducible exact H2_) | (have H2_ := (Option.bind_some _ _).symm.trans H; with_reducible exact H2_) | with_reducible exact H | (rw [hy334]; exact H) | exact H
       have Ny334 := Aside0.mk hy334
       clear hy334
       have H' := Aside0.mk H
       clear H
       have p11 : 0 ≤ (4 : Int) := (by omega)
       have q11 : 4 < a1.size := (by have : (4 : Int) < (a1.size : Int) := of_decide_eq_true (by first | (with_reducible assumption) | assumption); omega)
       have hx11 : ∀ h : 4 < a1.size, ((a1[4]'h).toNat : Int) = bt a1 4 := bt_at a1 4
       clear p11
       have qi11 : (4 < (a1.size : Int)) = True := eq_true (of_decide_eq_true (by first | (with_reducible assumption) | assumption))
       replace q11 := eq_true q11
       go_wp2_with (first | ((with_reducible refine gate_dst (N := 33) rfl ?_); (try (refine gate_guard (by rfl) ?_; dsimp only)); refine Kd.R_lit k52 _ 52 ?hg (N := 33) ?hd (xs := ([] : List (S52))) (inner := []) (ok := fun _ => True) (okp := fun _ => True) ?hr ?hp (fun _ hk => hk) trivial (Below.refl _ _) (Nat.le_refl _) (by simp) ?_; (case hd => rfl); (case hg => rfl); (case hr => first | (go_simp; done) | (go_simp; rfl)); (case hp => exact (Reps.none _ _)); intro v335 w13 ho14 hb hg_ hnew_; clear hg_ hnew_; (first | rw [← Ny334.out] at ho14 | (simp only [Int.reduceToNat] at ho14; rw [← Ny334.out] at ho14)); have n0_ := Aside0.mk (Kd.R_lower ho14 (below_size zb)); have n1_ := Aside0.mk (below_step zb hb); clear HB; have HO336 := n0_; have HB := n1_; clear n0_ n1_; clear hb ho14))
       go_loopg [7, 8] kj2 (fun kq v7 v8 w' => ∃ (x7_2 : List (S52)) (x8_2 : Int), v8 = .int .i64 x8_2 ∧ Aside0 (dioramaref04_Get.l0 kq a1 x7_2 x8_2 = some (r1, r2, r3)) ∧ Aside0 (kq ≤ kj2) ∧ Aside0 (Kd.R k52 52 w' w.heap.size (fun _ => True) v7 x7_2) ∧ Aside0 (Below w.heap.size w w'))
       case atStart => exact ⟨(y334), (5), zr, H', ⟨Nat.le_refl _⟩, ⟨by (with_reducible repeat (first | apply Kd.R_alloc | apply Kd.R_drewN | apply Kd.R_drew)); exact HO336.out⟩, ⟨zb⟩⟩
       case round =>
        clear H'
        try clear c1
        try clear p1
        try clear q1
        try clear hx1
        try clear qi1
        try clear p2
        try clear c3
        try clear c4
        try clear c4b0
        try clear c4b1
        try clear c5
        try clear c5b0
        try clear c5b1
        try clear c6
        try clear c6b0
        try clear c6b1
        try clear c7
        try clear c7b0
        try clear c7b1
        try clear c8
        try clear c9
        try clear c9b0
        try clear c9b1
        try clear c10
        try clear c10b0
        try clear c10b1
        try clear p11
        try clear q11
        try clear hx11
        try clear qi11
        try clear c12
        try clear c12b0
        try clear c12b1
        try clear p11
        try clear p2
        try clear q11
        obtain ⟨x7_2, x8_2, rfl, HA, HK2, HO_7, HB⟩ := hrel
        cases gk with
        | zero => exact absurd HA.out (by simp [dioramaref04_Get.l0])
        | succ k2 =>
         have H := HA.out
         clear HA
         simp only [dioramaref04_Get.l0] at H
         by_cases c15 : x8_2 < (a1.size : Int)
         ·rw [if_pos c15] at H
          have c15b0 : decide (x8_2 < (a1.size : Int)) = true := decide_eq_true c15
          clear c15
          by_cases c16 : (x7_2.length : Int) = 8
          ·rw [if_pos c16] at H
           have c16b0 : ((x7_2.length : Int) == 8) = true := beq_iff_eq.mpr c16
           have c16b1 : ((x7_2.length : Int) != 8) = false := bne_eq_false_iff_eq.mpr c16
           clear c16
           simp only [Option.some.injEq, Prod.mk.injEq] at H
           obtain ⟨rfl, rfl, rfl⟩ := H
           obtain ⟨Ao17, co17, eo17⟩ := Kd.R_slice HO_7.out
           subst eo17
           go_wp2
           go_ret3
           exact ⟨_, by first | rfl | (simp [errW_none, errW_some] <;> rfl) | (simp [*, errW_none, errW_some] <;> rfl), by first | exact Kd.R_nil _ _ _ _ _ | exact Kd.N_nil _ _ _ _ _ | exact Kd.V_nil _ _ _ _ _ | exact Kd.Q_nil _ _ _ _ _ | exact Kd.S_nil _ _ _ _ _, zb⟩
          ·rw [if_neg c16] at H
           have c16b0 : ((x7_2.length : Int) == 8) = false := beq_eq_false_iff_ne.mpr c16
           have c16b1 : ((x7_2.length : Int) != 8) = true := bne_iff_ne.mpr c16
           by_cases c18 : 0 ≤ x8_2
           ·rw [if_pos c18] at H
            have c18b0 : decide (0 ≤ x8_2) = true := decide_eq_true c18
            clear c18
            by_cases c20 : (bt a1 x8_2) = 0
            ·rw [if_pos c20] at H
             have c20b0 : ((bt a1 x8_2) == 0) = true := beq_iff_eq.mpr c20
             have c20b1 : ((bt a1 x8_2) != 0) = false := bne_eq_false_iff_eq.mpr c20
             clear c20
             simp only [Option.some.injEq, Prod.mk.injEq] at H
             obtain ⟨rfl, rfl, rfl⟩ := H
             obtain ⟨Ao21, co21, eo21⟩ := Kd.R_slice HO_7.out
             subst eo21
             have p19 : 0 ≤ (x8_2 : Int) := of_decide_eq_true (by first | (with_reducible assumption) | assumption)
             have q19 : x8_2 < (a1.size : Int) := of_decide_eq_true (by first | (with_reducible assumption) | assumption)
             have hx19 := bt_at a1 x8_2
             replace p19 := eq_true p19
             replace q19 := eq_true q19
             go_wp2
             go_ret3
             exact ⟨_, by first | rfl | (simp [errW_none, errW_some] <;> rfl) | (simp [*, errW_none, errW_some] <;> rfl), by first | exact Kd.R_nil _ _ _ _ _ | exact Kd.N_nil _ _ _ _ _ | exact Kd.V_nil _ _ _ _ _ | exact Kd.Q_nil _ _ _ _ _ | exact Kd.S_nil _ _ _ _ _, zb⟩
            ·rw [if_neg c20] at H
             have c20b0 : ((bt a1 x8_2) == 0) = false := beq_eq_false_iff_ne.mpr c20
             have c20b1 : ((bt a1 x8_2) != 0) = true := bne_iff_ne.mpr c20
             replace H := Option.bind_eq_some_iff.mp H
             obtain ⟨⟨t337, t338, t339⟩, A220, H⟩ := H
             replace H : (if t339 = 0 then (if t337 > 16777216 then (some (0, ([] : List (S52)), 19)) else (if (wrap64 ((a1.size : Int) - (wrap64 (t338 + (wrap64 (t337)))))) < 4 then (some (0, ([] : List (S52)), 2)) else (if 0 ≤ (wrap64 (t338 + (wrap64 (t337)))) then (if (wrap64 (t338 + (wrap64 (t337)))) ≤ (wrap64 ((wrap64 (t338 + (wrap64 (t337)))) + 4)) then (if (wrap64 ((wrap64 (t338 + (wrap64 (t337)))) + 4)) ≤ (a1.size : Int) then (if 0 ≤ t338 then (if t338 ≤ (wrap64 (t338 + (wrap64 (t337)))) then (if (wrap64 (t338 + (wrap64 (t337)))) ≤ (a1.size : Int) then ((dioramaref03_Sum.f k2 (a1.extract (t338 : Int).toNat ((wrap64 (t338 + (wrap64 (t337)))) : Int).toNat)).bind fun t340 => ((dioramaref03_Put.f k2 t340).bind fun t341 => (if (a1.extract ((wrap64 (t338 + (wrap64 (t337)))) : Int).toNat ((wrap64 ((wrap64 (t338 + (wrap64 (t337)))) + 4)) : Int).toNat).toList = t341.toList then (if x7_2.length < 5864062014805 then (dioramaref04_Get.l0 k2 a1 (x7_2 ++ [(⟨wrap64 (bt a1 x8_2), a1.extract (t338 : Int).toNat ((wrap64 (t338 + (wrap64 (t337)))) : Int).toNat⟩ : S52)]) (wrap64 ((wrap64 (t338 + (wrap64 (t337)))) + 4))) else (none)) else (some (0, ([] : List (S52)), 5))))) else (none)) else (none)) else (none)) else (none)) else (none)) else (none)))) else (some (0, ([] : List (S52)), t339))) = some (r1, r2, r3) := H
             have A22 := Aside0.mk A220
             clear A220
             by_cases c23 : t339 = 0
             ·rw [if_pos c23] at H
              have c23b0 : (t339 == 0) = true := beq_iff_eq.mpr c23
              have c23b1 : (t339 != 0) = false := bne_eq_false_iff_eq.mpr c23
              clear c23
              by_cases c24 : t337 > 16777216
              ·rw [if_pos c24] at H
               have c24b0 : decide (16777216 < t337) = true := decide_eq_true c24
               clear c24
               simp only [Option.some.injEq, Prod.mk.injEq] at H
               obtain ⟨rfl, rfl, rfl⟩ := H
               obtain ⟨Ao25, co25, eo25⟩ := Kd.R_slice HO_7.out
               subst eo25
               have p19 : 0 ≤ (x8_2 : Int) := of_decide_eq_true (by first | (with_reducible assumption) | assumption)
               have q19 : x8_2 < (a1.size : Int) := of_decide_eq_true (by first | (with_reducible assumption) | assumption)
               have hx19 := bt_at a1 x8_2
               replace p19 := eq_true p19
               replace q19 := eq_true q19
               go_wp2_with (first | ((with_reducible refine gate_callee (f := 56) rfl ?_); refine goesL_ (some 49) rfl rfl Try.func56 (by kernel_rfl) rfl #[.string a1, .int .i64 (wrap64 (x8_2 + 1))] rfl zm ?_; (with_reducible refine (dioramaref01_Get.calls k2 a1 (wrap64 (x8_2 + 1)) t337 t338 t339 _ A22.out).mono ?_); rintro e w' ⟨rfl, ⟨nd, rfl⟩⟩; refine ⟨_, rfl, ?_⟩))
               go_ret3
               exact ⟨_, by first | rfl | (simp [errW_none, errW_some] <;> rfl) | (simp [*, errW_none, errW_some] <;> rfl), by first | exact Kd.R_nil _ _ _ _ _ | exact Kd.N_nil _ _ _ _ _ | exact Kd.V_nil _ _ _ _ _ | exact Kd.Q_nil _ _ _ _ _ | exact Kd.S_nil _ _ _ _ _, zb⟩
              ·rw [if_neg c24] at H
               have c24b0 : decide (16777216 < t337) = false := decide_eq_false c24
               clear c24
               by_cases c26 : (wrap64 ((a1.size : Int) - (wrap64 (t338 + (wrap64 (t337)))))) < 4
               ·rw [if_pos c26] at H
                have c26b0 : decide ((wrap64 ((a1.size : Int) - (wrap64 (t338 + (wrap64 (t337)))))) < 4) = true := decide_eq_true c26
                clear c26
                simp only [Option.some.injEq, Prod.mk.injEq] at H
                obtain ⟨rfl, rfl, rfl⟩ := H
                obtain ⟨Ao27, co27, eo27⟩ := Kd.R_slice HO_7.out
                subst eo27
                have p19 : 0 ≤ (x8_2 : Int) := of_decide_eq_true (by first | (with_reducible assumption) | assumption)
                have q19 : x8_2 < (a1.size : Int) := of_decide_eq_true (by first | (with_reducible assumption) | assumption)
                have hx19 := bt_at a1 x8_2
                replace p19 := eq_true p19
                replace q19 := eq_true q19
                go_wp2_with (first | ((with_reducible refine gate_callee (f := 56) rfl ?_); refine goesL_ (some 49) rfl rfl Try.func56 (by kernel_rfl) rfl #[.string a1, .int .i64 (wrap64 (x8_2 + 1))] rfl zm ?_; (with_reducible refine (dioramaref01_Get.calls k2 a1 (wrap64 (x8_2 + 1)) t337 t338 t339 _ A22.out).mono ?_); rintro e w' ⟨rfl, ⟨nd, rfl⟩⟩; refine ⟨_, rfl, ?_⟩))
                go_ret3
                exact ⟨_, by first | rfl | (simp [errW_none, errW_some] <;> rfl) | (simp [*, errW_none, errW_some] <;> rfl), by first | exact Kd.R_nil _ _ _ _ _ | exact Kd.N_nil _ _ _ _ _ | exact Kd.V_nil _ _ _ _ _ | exact Kd.Q_nil _ _ _ _ _ | exact Kd.S_nil _ _ _ _ _, zb⟩
               ·rw [if_neg c26] at H
                have c26b0 : decide ((wrap64 ((a1.size : Int) - (wrap64 (t338 + (wrap64 (t337)))))) < 4) = false := decide_eq_false c26
                clear c26
                obtain ⟨ji28, hji28⟩ : ∃ j_ : Int, (wrap64 (t338 + (wrap64 (t337)))) = j_ := ⟨_, rfl⟩
                replace H : (if 0 ≤ (ji28) then (if (ji28) ≤ (wrap64 ((ji28) + 4)) then (if (wrap64 ((ji28) + 4)) ≤ (a1.size : Int) then (if 0 ≤ t338 then (if t338 ≤ (ji28) then (if (ji28) ≤ (a1.size : Int) then ((dioramaref03_Sum.f k2 (a1.extract (t338 : Int).toNat ((ji28) : Int).toNat)).bind fun t340 => ((dioramaref03_Put.f k2 t340).bind fun t341 => (if (a1.extract ((ji28) : Int).toNat ((wrap64 ((ji28) + 4)) : Int).toNat).toList = t341.toList then (if x7_2.length < 5864062014805 then (dioramaref04_Get.l0 k2 a1 (x7_2 ++ [(⟨wrap64 (bt a1 x8_2), a1.extract (t338 : Int).toNat ((ji28) : Int).toNat⟩ : S52)]) (wrap64 ((ji28) + 4))) else (none)) else (some (0, ([] : List (S52)), 5))))) else (none)) else (none)) else (none)) else (none)) else (none)) else (none)) = some (r1, r2, r3) := by first | (rw [hji28] at H; exact H) | (simp only [hji28] at H ⊢; exact H)
                (try rw [hji28] at c26b0)
                (try rw [hji28] at A22)
                have hji28w : (IntKind.i64.wrap (t338 + (wrap64 (t337)))) = ji28 := (i64_w _).trans hji28
                by_cases c29 : 0 ≤ (ji28)
                ·rw [if_pos c29] at H
                 have c29b0 := eq_true c29
                 have c29b1 : decide (0 ≤ (ji28)) = true := decide_eq_true c29
                 clear c29
                 by_cases c30 : (ji28) ≤ (wrap64 ((ji28) + 4))
                 ·rw [if_pos c30] at H
                  have c30b0 := eq_true c30
                  have c30b1 : decide ((ji28) ≤ (wrap64 ((ji28) + 4))) = true := decide_eq_true c30
                  by_cases c31 : (wrap64 ((ji28) + 4)) ≤ (a1.size : Int)
                  ·rw [if_pos c31] at H
                   have c31b0 := eq_true c31
                   have c31b1 : decide ((wrap64 ((ji28) + 4)) ≤ (a1.size : Int)) = true := decide_eq_true c31
                   by_cases c32 : 0 ≤ t338
                   ·rw [if_pos c32] at H
                    have c32b0 := eq_true c32
                    have c32b1 : decide (0 ≤ t338) = true := decide_eq_true c32
                    clear c32
                    by_cases c33 : t338 ≤ (ji28)
                    ·rw [if_pos c33] at H
                     have c33b0 := eq_true c33
                     have c33b1 : decide (t338 ≤ (ji28)) = true := decide_eq_true c33
                     clear c33
                     by_cases c34 : (ji28) ≤ (a1.size : Int)
                     ·rw [if_pos c34] at H
                      have c34b0 := eq_true c34
                      have c34b1 : decide ((ji28) ≤ (a1.size : Int)) = true := decide_eq_true c34
                      clear c34
                      replace H := Option.bind_eq_some_iff.mp H
                      obtain ⟨t340, A350, H⟩ := H
                      replace H : ((dioramaref03_Put.f k2 t340).bind fun t341 => (if (a1.extract ((ji28) : Int).toNat ((wrap64 ((ji28) + 4)) : Int).toNat).toList = t341.toList then (if x7_2.length < 5864062014805 then (dioramaref04_Get.l0 k2 a1 (x7_2 ++ [(⟨wrap64 (bt a1 x8_2), a1.extract (t338 : Int).toNat ((ji28) : Int).toNat⟩ : S52)]) (wrap64 ((ji28) + 4))) else (none)) else (some (0, ([] : List (S52)), 5)))) = some (r1, r2, r3) := H
                      have A35 := Aside0.mk A350
                      clear A350
                      replace H := Option.bind_eq_some_iff.mp H
                      obtain ⟨t341, A360, H⟩ := H
                      replace H : (if (a1.extract ((ji28) : Int).toNat ((wrap64 ((ji28) + 4)) : Int).toNat).toList = t341.toList then (if x7_2.length < 5864062014805 then (dioramaref04_Get.l0 k2 a1 (x7_2 ++ [(⟨wrap64 (bt a1 x8_2), a1.extract (t338 : Int).toNat ((ji28) : Int).toNat⟩ : S52)]) (wrap64 ((ji28) + 4))) else (none)) else (some (0, ([] : List (S52)), 5))) = some (r1, r2, r3) := H
                      have A36 := Aside0.mk A360
                      clear A360
                      by_cases c37 : (a1.extract ((ji28) : Int).toNat ((wrap64 ((ji28) + 4)) : Int).toNat).toList = t341.toList
                      ·rw [if_pos c37] at H
                       have c37b0 : ((a1.extract ((ji28) : Int).toNat ((wrap64 ((ji28) + 4)) : Int).toNat).toList == t341.toList) = true := beq_iff_eq.mpr c37
                       have c37b1 : ((a1.extract ((ji28) : Int).toNat ((wrap64 ((ji28) + 4)) : Int).toNat).toList != t341.toList) = false := bne_eq_false_iff_eq.mpr c37
                       clear c37
                       have c39b0 := eq_true (of_decide_eq_true (by first | (with_reducible assumption) | assumption) : 0 ≤ t338)
                       have c40b0 := eq_true (of_decide_eq_true (by first | (with_reducible assumption) | assumption) : t338 ≤ (ji28))
                       have c41b0 := eq_true (of_decide_eq_true (by first | (with_reducible assumption) | assumption) : (ji28) ≤ (a1.size : Int))
                       by_cases c42 : x7_2.length < 5864062014805
                       ·rw [if_pos c42] at H
                        have LMc42 := Aside0.mk c42
                        clear c42
                        obtain ⟨y342, hy342⟩ : ∃ y_ : List (S52), y_ = (x7_2 ++ [(⟨wrap64 (bt a1 x8_2), a1.extract (t338 : Int).toNat ((ji28) : Int).toNat⟩ : S52)]) := ⟨_, rfl⟩
                        replace H : (dioramaref04_Get.l0 k2 a1 y342 (wrap64 ((ji28) + 4))) = some (r1, r2, r3) := by first | (rw [hy342]; with_reducible exact H) | (have H2_ := (Option.bind_some _ _).symm.trans H; rw [hy342]; with_reducible exact H2_) | (have H2_ := (Option.bind_some _ _).symm.trans H; with_reducible exact H2_) | with_reducible exact H | (rw [hy342]; exact H) | exact H
                        have Ny342 := Aside0.mk hy342
                        clear hy342
                        have H' := Aside0.mk H
                        clear H
                        obtain ⟨Ao43, co43, eo43⟩ := Kd.R_slice HO_7.out
                        subst eo43
                        have p19 : 0 ≤ (x8_2 : Int) := of_decide_eq_true (by first | (with_reducible assumption) | assumption)
                        have q19 : x8_2 < (a1.size : Int) := of_decide_eq_true (by first | (with_reducible assumption) | assumption)
                        have hx19 := bt_at a1 x8_2
                        replace p19 := eq_true p19
                        replace q19 := eq_true q19
                        try go_wp2_with (first | ((with_reducible refine gate_callee (f := 56) rfl ?_); refine goesL_ (some 49) rfl rfl Try.func56 (by kernel_rfl) rfl #[.string a1, .int .i64 (wrap64 (x8_2 + 1))] rfl zm ?_; (with_reducible refine (dioramaref01_Get.calls k2 a1 (wrap64 (x8_2 + 1)) t337 t338 t339 _ A22.out).mono ?_); rintro e w' ⟨rfl, ⟨nd, rfl⟩⟩; refine ⟨_, rfl, ?_⟩))
                        (try (rw [drewN_self wr]; generalize hq_ : World.drewN wr _ = wr; have n0_ : Aside0 (Kd.R k52 52 wr w.heap.size (fun _ => True) (.slice Ao43 x7_2.length co43) x7_2) := ⟨by rw [← hq_]; exact (by (with_reducible repeat (first | apply Kd.R_alloc | apply Kd.R_drewN | apply Kd.R_drew)); exact HO_7.out)⟩; have n1_ : Aside0 (Below w.heap.size w wr) := ⟨by rw [← hq_]; exact zb⟩; clear HO_7 HB hq_; have HO_7 := n0_; have HB := n1_; clear n0_ n1_))
                        have n0_ := Aside0.mk (Kd.R_drew HO_7.out)
                        have n1_ := Aside0.mk (below_drew1 HB.out)
                        clear HO_7
                        clear HB
                        have HO_7 := n0_
                        have HB := n1_
                        clear n0_ n1_
                        refine start_ (n := 12) (S := fun w' => True) (ds := []) #[false, false, false, false, false, false, false, false, false, false, false, false] (by kernel_rfl) rfl rfl trivial (fun hHeld => ?_); refine with_tabW dioramaref04_Get.tab22 dioramaref04_Get.bits22 (fun HT_ HW_ => ?_)
                        generalize wr.drew = w44 at HO_7 HB hHeld ⊢
                        refine pure_ (i := 0) (N := some 67) (v := ?_) (a' := ?_) #[true, false, false, false, false, false, false, false, false, false, false, false] rfl rfl (any_of HT_.out (by kernel_rfl)) (fun _ _ _ h => h) (Or.inl ⟨by rfl, ?_⟩) ?_ ?_
                        rotate_left
                        ·intro w'
                         go_simp
                         with_reducible rfl
                        rotate_left
                        ·simp only [Act.put, zq1, zq2, zq3, i64_w]
                         rfl
                        refine pure_ (i := 1) (N := some 68) (v := ?_) (a' := ?_) #[true, true, false, false, false, false, false, false, false, false, false, false] rfl rfl (any_of HT_.out (by kernel_rfl)) (fun _ _ _ h => h) (Or.inl ⟨by rfl, ?_⟩) ?_ ?_
                        rotate_left
                        ·intro w'
                         go_simp
                         with_reducible rfl
                        rotate_left
                        ·simp only [Act.put, zq1, zq2, zq3, i64_w]
                         rfl
                        refine pure_ (i := 2) (N := some 69) (v := ?_) (a' := ?_) #[true, true, true, false, false, false, false, false, false, false, false, false] rfl rfl (any_of HT_.out (by kernel_rfl)) (fun _ _ _ h => h) (Or.inl ⟨by rfl, ?_⟩) ?_ ?_
                        rotate_left
                        ·intro w'
                         go_simp
                         with_reducible rfl
                        rotate_left
                        ·simp only [Act.put, zq1, zq2, zq3, i64_w]
                         rfl
                        refine pure_ (i := 3) (N := some 70) (v := ?_) (a' := ?_) #[true, true, true, true, false, false, false, false, false, false, false, false] rfl rfl (any_of HT_.out (by kernel_rfl)) (fun _ _ _ h => h) (Or.inl ⟨by rfl, ?_⟩) ?_ ?_
                        rotate_left
                        ·intro w'
                         go_simp
                         with_reducible rfl
                        rotate_left
                        ·simp only [Act.put, zq1, zq2, zq3, i64_w]
                         rfl
                        refine pure_ (i := 4) (N := some 71) (v := ?_) (a' := ?_) #[true, true, true, true, true, false, false, false, false, false, false, false] rfl rfl (any_of HT_.out (by kernel_rfl)) (fun _ _ _ h => h) (Or.inl ⟨by rfl, ?_⟩) ?_ ?_
                        rotate_left
                        ·intro w'
                         go_simp
                         with_reducible rfl
                        rotate_left
                        ·simp only [Act.put, zq1, zq2, zq3, i64_w]
                         rfl
                        refine pure_ (i := 5) (N := some 72) (v := ?_) (a' := ?_) #[true, true, true, true, true, true, false, false, false, false, false, false] rfl rfl (any_of HT_.out (by kernel_rfl)) (fun _ _ _ h => h) (Or.inl ⟨by rfl, ?_⟩) ?_ ?_
                        rotate_left
                        ·intro w'
                         go_simp
                         with_reducible rfl
                        rotate_left
                        ·simp only [Act.put, zq1, zq2, zq3, i64_w]
                         rfl
                        refine pure_ (i := 6) (N := some 73) (v := ?_) (a' := ?_) #[true, true, true, true, true, true, true, false, false, false, false, false] rfl rfl (any_of HT_.out (by kernel_rfl)) (fun _ _ _ h => h) (Or.inl ⟨by rfl, ?_⟩) ?_ ?_
                        rotate_left
                        ·intro w'
                         go_simp
                         with_reducible rfl
                        rotate_left
                        ·simp only [Act.put, zq1, zq2, zq3, i64_w]
                         rfl
                        refine pure_ (i := 7) (N := some 74) (v := ?_) (a' := ?_) #[true, true, true, true, true, true, true, true, false, false, false, false] rfl rfl (any_of HT_.out (by kernel_rfl)) (fun _ _ _ h => h) (Or.inl ⟨by rfl, ?_⟩) ?_ ?_
                        rotate_left
                        ·intro w'
                         go_simp
                         with_reducible rfl
                        rotate_left
                        ·simp only [Act.put, zq1, zq2, zq3, i64_w]
                         rfl
                        refine pure_ (i := 8) (N := some 75) (v := ?_) (a' := ?_) #[true, true, true, true, true, true, true, true, true, false, false, false] rfl rfl (any_of HT_.out (by kernel_rfl)) (fun _ _ _ h => h) (Or.inl ⟨by rfl, ?_⟩) ?_ ?_
                        rotate_left
                        ·intro w'
                         go_simp
                         with_reducible rfl
                        rotate_left
                        ·simp only [Act.put, zq1, zq2, zq3, i64_w]
                         rfl
                        refine one_ (i := 9) (N := some 76) #[true, true, true, true, true, true, true, true, true, true, false, false] rfl rfl (one_of HT_.out (by kernel_rfl)) (by decide) (fun K hK => ?_)
                        refine goes_ Try.func21 (by kernel_rfl) rfl #[.string (a1.extract (t338 : Int).toNat ((ji28) : Int).toNat)] (by rfl) rfl rfl (by (try simp only [List.map_toArray, List.map_cons, List.map_nil]); first | done | (simp only [hji28]; rfl) | rfl | (simp only [List.length_drop, List.length_take]; rfl)) ?_
                        with_reducible refine (dioramaref03_Sum.calls k2 (a1.extract (t338 : Int).toNat ((ji28) : Int).toNat) t340 _ A35.out).mono ?_
                        rintro e w' ⟨rfl, ⟨nd, rfl⟩⟩
                        refine ⟨_, rfl, ?_⟩
                        refine hK.out _ _ trivial (fun hHeld => ?_)
                        clear hK K
                        refine norm_ (a' := ?_) ?_ ?_
                        rotate_left
                        ·show Act.put _ (some 76) _ = _
                         simp only [Act.put, zq1, zq2, zq3, i64_w]
                         rfl
                        refine one_ (i := 10) (N := some 77) #[true, true, true, true, true, true, true, true, true, true, true, false] rfl rfl (one_of HT_.out (by kernel_rfl)) (by decide) (fun K hK => ?_)
                        refine goes_ Try.func25 (by kernel_rfl) rfl #[.int .u32 t340] (by rfl) rfl rfl zm ?_
                        with_reducible refine (dioramaref03_Put.calls k2 t340 t341 _ A36.out).mono ?_
                        rintro e w45 ⟨rfl, hb⟩
                        refine ⟨_, rfl, ?_⟩
                        have n0_ := Aside0.mk (Kd.R_below (by (with_reducible repeat (first | apply Kd.R_alloc | apply Kd.R_drewN | apply Kd.R_drew)); exact HO_7.out) hb)
                        have n1_ := Aside0.mk (below_step zb hb)
                        clear HO_7
                        clear HB
                        have HO_7 := n0_
                        have HB := n1_
                        clear n0_ n1_
                        (try clear hb)
                        (try clear hb2)
                        (try clear hk)
                        (try clear hi)
                        refine hK.out _ _ trivial (fun hHeld => ?_)
                        clear hK K
                        refine norm_ (a' := ?_) ?_ ?_
                        rotate_left
                        ·show Act.put _ (some 77) _ = _
                         simp only [Act.put, zq1, zq2, zq3, i64_w]
                         rfl
                        refine pure_ (i := 11) (N := some 78) (v := ?_) (a' := ?_) #[true, true, true, true, true, true, true, true, true, true, true, true] rfl rfl (any_of HT_.out (by kernel_rfl)) (fun _ _ _ h => h) (Or.inl ⟨by rfl, ?_⟩) ?_ ?_
                        rotate_left
                        ·intro w'
                         go_simp
                         with_reducible rfl
                        rotate_left
                        ·simp only [Act.put, zq1, zq2, zq3, i64_w]
                         rfl
                        refine done_ (done_of HT_.out (by kernel_rfl)) ?_
                        try go_wp2
                        have n0_ := Aside0.mk (Kd.R_drew HO_7.out)
                        have n1_ := Aside0.mk (below_drew1 HB.out)
                        clear HO_7
                        clear HB
                        have HO_7 := n0_
                        have HB := n1_
                        clear n0_ n1_
                        have p38 : 0 ≤ (x8_2 : Int) := of_decide_eq_true (by first | (with_reducible assumption) | assumption)
                        have q38 : x8_2 < (a1.size : Int) := of_decide_eq_true (by first | (with_reducible assumption) | assumption)
                        have hx38 := bt_at a1 x8_2
                        replace p38 := eq_true p38
                        replace q38 := eq_true q38
                        refine start_ (n := 13) (S := fun w' => True) (ds := []) #[false, false, false, false, false, false, false, false, false, false, false, false, false] (by kernel_rfl) rfl rfl trivial (fun hHeld => ?_); refine with_tabW dioramaref04_Get.tab24 dioramaref04_Get.bits24 (fun HT_ HW_ => ?_)
                        generalize w45.drew = w46 at HO_7 HB hHeld ⊢
                        refine pure_ (i := 0) (N := some 79) (v := ?_) (a' := ?_) #[true, false, false, false, false, false, false, false, false, false, false, false, false] rfl rfl (any_of HT_.out (by kernel_rfl)) (fun _ _ _ h => h) (Or.inl ⟨by rfl, ?_⟩) ?_ ?_
                        rotate_left
                        ·intro w'
                         go_simp
                         with_reducible rfl
                        rotate_left
                        ·simp only [Act.put, zq1, zq2, zq3, i64_w]
                         rfl
                        refine pure_ (i := 1) (N := some 80) (v := ?_) (a' := ?_) #[true, true, false, false, false, false, false, false, false, false, false, false, false] rfl rfl (any_of HT_.out (by kernel_rfl)) (fun _ _ _ h => h) (Or.inl ⟨by rfl, ?_⟩) ?_ ?_
                        rotate_left
                        ·intro w'
                         go_simp
                         with_reducible rfl
                        rotate_left
                        ·simp only [Act.put, zq1, zq2, zq3, i64_w]
                         rfl
                        refine pure_ (i := 2) (N := some 81) (v := ?_) (a' := ?_) #[true, true, true, false, false, false, false, false, false, false, false, false, false] rfl rfl (any_of HT_.out (by kernel_rfl)) (fun _ _ _ h => h) (Or.inl ⟨by rfl, ?_⟩) ?_ ?_
                        rotate_left
                        ·intro w'
                         go_simp
                         with_reducible rfl
                        rotate_left
                        ·simp only [Act.put, zq1, zq2, zq3, i64_w]
                         rfl
                        refine pure_ (i := 5) (N := some 84) (v := ?_) (a' := ?_) #[true, true, true, false, false, true, false, false, false, false, false, false, false] rfl rfl (any_of HT_.out (by kernel_rfl)) (fun _ _ _ h => h) (Or.inl ⟨by rfl, ?_⟩) ?_ ?_
                        rotate_left
                        ·intro w'
                         go_simp
                         with_reducible rfl
                        rotate_left
                        ·simp only [Act.put, zq1, zq2, zq3, i64_w]
                         rfl
                        refine pure_ (i := 6) (N := some 85) (v := ?_) (a' := ?_) #[true, true, true, false, false, true, true, false, false, false, false, false, false] rfl rfl (any_of HT_.out (by kernel_rfl)) (fun _ _ _ h => h) (Or.inl ⟨by rfl, ?_⟩) ?_ ?_
                        rotate_left
                        ·intro w'
                         go_simp
                         with_reducible rfl
                        rotate_left
                        ·simp only [Act.put, zq1, zq2, zq3, i64_w]
                         rfl
                        refine pure_ (i := 7) (N := some 86) (v := ?_) (a' := ?_) #[true, true, true, false, false, true, true, true, false, false, false, false, false] rfl rfl (any_of HT_.out (by kernel_rfl)) (fun _ _ _ h => h) (Or.inl ⟨by rfl, ?_⟩) ?_ ?_
                        rotate_left
                        ·intro w'
                         go_simp
                         with_reducible rfl
                        rotate_left
                        ·simp only [Act.put, zq1, zq2, zq3, i64_w]
                         rfl
                        refine pure_ (i := 8) (N := some 87) (v := ?_) (a' := ?_) #[true, true, true, false, false, true, true, true, true, false, false, false, false] rfl rfl (any_of HT_.out (by kernel_rfl)) (fun _ _ _ h => h) (Or.inl ⟨by rfl, ?_⟩) ?_ ?_
                        rotate_left
                        ·intro w'
                         go_simp
                         with_reducible rfl
                        rotate_left
                        ·simp only [Act.put, zq1, zq2, zq3, i64_w]
                         rfl
                        refine take_ (i := 3) (N := some 82) (v := ?_) (a' := ?_) #[true, true, true, true, false, true, true, true, true, false, false, false, false] rfl rfl (take_ofW HT_.out HW_.out (by kernel_rfl)) (fun _ _ _ h => h) (Or.inl ⟨by rfl, ?_⟩) hHeld ?_ ?_
                        rotate_left
                        ·intro w' _
                         go_simp
                         with_reducible rfl
                        rotate_left
                        ·simp only [Act.put, zq1, zq2, zq3, i64_w]
                         rfl
                        refine pure_ (i := 4) (N := some 83) (v := ?_) (a' := ?_) #[true, true, true, true, true, true, true, true, true, false, false, false, false] rfl rfl (any_of HT_.out (by kernel_rfl)) (fun _ _ _ h => h) (Or.inl ⟨by rfl, ?_⟩) ?_ ?_
                        rotate_left
                        ·intro w'
                         go_simp
                         with_reducible rfl
                        rotate_left
                        ·simp only [Act.put, zq1, zq2, zq3, i64_w]
                         rfl
                        refine pure_ (i := 9) (N := some 88) (v := ?_) (a' := ?_) #[true, true, true, true, true, true, true, true, true, true, false, false, false] rfl rfl (any_of HT_.out (by kernel_rfl)) (fun _ _ _ h => h) (Or.inl ⟨by rfl, ?_⟩) ?_ ?_
                        rotate_left
                        ·intro w'
                         go_simp
                         with_reducible rfl
                        rotate_left
                        ·simp only [Act.put, zq1, zq2, zq3, i64_w]
                         rfl
                        refine one_ (i := 10) (N := some 89) #[true, true, true, true, true, true, true, true, true, true, true, false, false] rfl rfl (one_of HT_.out (by kernel_rfl)) (by decide) (fun K hK => ?_)
                        refine value_ (w1 := ?_) (v := ?_) (by rfl) rfl ?_ ?_
                        rotate_left 2
                        ·go_simp
                         constructor
                         ·rfl
                         ·rfl
                        refine hK.out _ _ trivial (fun hHeld => ?_)
                        clear hK K
                        refine norm_ (a' := ?_) ?_ ?_
                        rotate_left
                        ·show Act.put _ (some 89) _ = _
                         simp only [Act.put, zq1, zq2, zq3, i64_w]
                         rfl
                        refine one_ (i := 11) (N := some 90) #[true, true, true, true, true, true, true, true, true, true, true, true, false] rfl rfl (one_of HT_.out (by kernel_rfl)) (by decide) (fun K hK => ?_)
                        refine Kd.R_append_step k52 (w0 := w) w.heap.size (by rfl) (.tmp 79) (.tmp 89) 36 52 (.agg #[(.int .i64 0), (.string ⟨#[]⟩)]) 24 rfl Try.underlying36 info52 rfl (by decide) (by omega) (.slice Ao43 x7_2.length co43) x7_2 (⟨wrap64 (bt a1 x8_2), a1.extract (t338 : Int).toNat ((ji28) : Int).toNat⟩ : S52) [.int .i64 (wrap64 (bt a1 x8_2)), .string (a1.extract (t338 : Int).toNat ((ji28) : Int).toNat)] (fun _ => True) (fun _ => False) rfl rfl ?aP (fun _ hk => hk.elim) ?aF ?aO ?aB ?aS ?aL ?_
                        (case aP => exact k52_mkM _ _ _ (⟨wrap64 (bt a1 x8_2), a1.extract (t338 : Int).toNat ((ji28) : Int).toNat⟩ : S52))
                        (case aB => exact zb)
                        (case aF => exact (fun _ _ => trivial))
                        (case aO => exact (by (with_reducible repeat (first | apply Kd.R_alloc | apply Kd.R_drewN | apply Kd.R_drew)); exact HO_7.out))
                        (case aS => exact (below_size zb))
                        (case aL => have := LMc42.out; omega)
                        intro v343 w47 ho hb hg hat
                        rw [← Ny342.out] at ho
                        have n0_ := Aside0.mk (hb)
                        have n1_ := Aside0.mk (ho)
                        clear HB
                        clear HO_7
                        have HB := n0_
                        have HO344 := n1_
                        clear n0_ n1_
                        clear ho hb hg hat
                        refine hK.out _ _ trivial (fun hHeld => ?_)
                        clear hK K
                        refine norm_ (a' := ?_) ?_ ?_
                        rotate_left
                        ·show Act.put _ (some 90) _ = _
                         simp only [Act.put, zq1, zq2, zq3, i64_w]
                         rfl
                        refine pure_ (i := 12) (N := some 7) (v := ?_) (a' := ?_) #[true, true, true, true, true, true, true, true, true, true, true, true, true] rfl rfl (any_of HT_.out (by kernel_rfl)) (fun _ _ _ h => h) (Or.inl ⟨by rfl, ?_⟩) ?_ ?_
                        rotate_left
                        ·intro w'
                         go_simp
                         with_reducible rfl
                        rotate_left
                        ·simp only [Act.put, zq1, zq2, zq3, i64_w]
                         rfl
                        refine done_ (done_of HT_.out (by kernel_rfl)) ?_
                        try go_wp2
                        go_roundg k2
                        case measure => have := HJ2.out; have := HK2.out; omega
                        case rel => exact ⟨(y342), (wrap64 ((ji28) + 4)), (by first | rfl | (simp; done) | (simp only [← hji28] <;> (first | rfl | simp)) | (simp [*]; done)), H', ⟨by have := HJ2.out; have := HK2.out; omega⟩, ⟨by (with_reducible repeat (first | apply Kd.R_alloc | apply Kd.R_drewN | apply Kd.R_drew)); exact HO344.out⟩, ⟨zb⟩⟩
                       ·rw [if_neg c42] at H
                        exact absurd H (by simp)
                      ·rw [if_neg c37] at H
                       have c37b0 : ((a1.extract ((ji28) : Int).toNat ((wrap64 ((ji28) + 4)) : Int).toNat).toList == t341.toList) = false := beq_eq_false_iff_ne.mpr c37
                       have c37b1 : ((a1.extract ((ji28) : Int).toNat ((wrap64 ((ji28) + 4)) : Int).toNat).toList != t341.toList) = true := bne_iff_ne.mpr c37
                       simp only [Option.some.injEq, Prod.mk.injEq] at H
                       obtain ⟨rfl, rfl, rfl⟩ := H
                       obtain ⟨Ao48, co48, eo48⟩ := Kd.R_slice HO_7.out
                       subst eo48
                       have p19 : 0 ≤ (x8_2 : Int) := of_decide_eq_true (by first | (with_reducible assumption) | assumption)
                       have q19 : x8_2 < (a1.size : Int) := of_decide_eq_true (by first | (with_reducible assumption) | assumption)
                       have hx19 := bt_at a1 x8_2
                       replace p19 := eq_true p19
                       replace q19 := eq_true q19
                       try go_wp2_with (first | ((with_reducible refine gate_callee (f := 56) rfl ?_); refine goesL_ (some 49) rfl rfl Try.func56 (by kernel_rfl) rfl #[.string a1, .int .i64 (wrap64 (x8_2 + 1))] rfl zm ?_; (with_reducible refine (dioramaref01_Get.calls k2 a1 (wrap64 (x8_2 + 1)) t337 t338 t339 _ A22.out).mono ?_); rintro e w' ⟨rfl, ⟨nd, rfl⟩⟩; refine ⟨_, rfl, ?_⟩))
                       (try (rw [drewN_self wr]; generalize hq_ : World.drewN wr _ = wr; have n0_ : Aside0 (Kd.R k52 52 wr w.heap.size (fun _ => True) (.slice Ao48 x7_2.length co48) x7_2) := ⟨by rw [← hq_]; exact (by (with_reducible repeat (first | apply Kd.R_alloc | apply Kd.R_drewN | apply Kd.R_drew)); exact HO_7.out)⟩; have n1_ : Aside0 (Below w.heap.size w wr) := ⟨by rw [← hq_]; exact zb⟩; clear HO_7 HB hq_; have HO_7 := n0_; have HB := n1_; clear n0_ n1_))
                       have n0_ := Aside0.mk (Kd.R_drew HO_7.out)
                       have n1_ := Aside0.mk (below_drew1 HB.out)
                       clear HO_7
                       clear HB
                       have HO_7 := n0_
                       have HB := n1_
                       clear n0_ n1_
                       refine start_ (n := 12) (S := fun w' => True) (ds := []) #[false, false, false, false, false, false, false, false, false, false, false, false] (by kernel_rfl) rfl rfl trivial (fun hHeld => ?_); refine with_tabW dioramaref04_Get.tab22 dioramaref04_Get.bits22 (fun HT_ HW_ => ?_)
                       generalize wr.drew = w49 at HO_7 HB hHeld ⊢
                       refine pure_ (i := 0) (N := some 67) (v := ?_) (a' := ?_) #[true, false, false, false, false, false, false, false, false, false, false, false] rfl rfl (any_of HT_.out (by kernel_rfl)) (fun _ _ _ h => h) (Or.inl ⟨by rfl, ?_⟩) ?_ ?_
                       rotate_left
                       ·intro w'
                        go_simp
                        with_reducible rfl
                       rotate_left
                       ·simp only [Act.put, zq1, zq2, zq3, i64_w]
                        rfl
                       refine pure_ (i := 1) (N := some 68) (v := ?_) (a' := ?_) #[true, true, false, false, false, false, false, false, false, false, false, false] rfl rfl (any_of HT_.out (by kernel_rfl)) (fun _ _ _ h => h) (Or.inl ⟨by rfl, ?_⟩) ?_ ?_
                       rotate_left
                       ·intro w'
                        go_simp
                        with_reducible rfl
                       rotate_left
                       ·simp only [Act.put, zq1, zq2, zq3, i64_w]
                        rfl
                       refine pure_ (i := 2) (N := some 69) (v := ?_) (a' := ?_) #[true, true, true, false, false, false, false, false, false, false, false, false] rfl rfl (any_of HT_.out (by kernel_rfl)) (fun _ _ _ h => h) (Or.inl ⟨by rfl, ?_⟩) ?_ ?_
                       rotate_left
                       ·intro w'
                        go_simp
                        with_reducible rfl
                       rotate_left
                       ·simp only [Act.put, zq1, zq2, zq3, i64_w]
                        rfl
                       refine pure_ (i := 3) (N := some 70) (v := ?_) (a' := ?_) #[true, true, true, true, false, false, false, false, false, false, false, false] rfl rfl (any_of HT_.out (by kernel_rfl)) (fun _ _ _ h => h) (Or.inl ⟨by rfl, ?_⟩) ?_ ?_
                       rotate_left
                       ·intro w'
                        go_simp
                        with_reducible rfl
                       rotate_left
                       ·simp only [Act.put, zq1, zq2, zq3, i64_w]
                        rfl
                       refine pure_ (i := 4) (N := some 71) (v := ?_) (a' := ?_) #[true, true, true, true, true, false, false, false, false, false, false, false] rfl rfl (any_of HT_.out (by kernel_rfl)) (fun _ _ _ h => h) (Or.inl ⟨by rfl, ?_⟩) ?_ ?_
                       rotate_left
                       ·intro w'
                        go_simp
                        with_reducible rfl
                       rotate_left
                       ·simp only [Act.put, zq1, zq2, zq3, i64_w]
                        rfl
                       refine pure_ (i := 5) (N := some 72) (v := ?_) (a' := ?_) #[true, true, true, true, true, true, false, false, false, false, false, false] rfl rfl (any_of HT_.out (by kernel_rfl)) (fun _ _ _ h => h) (Or.inl ⟨by rfl, ?_⟩) ?_ ?_
                       rotate_left
                       ·intro w'
                        go_simp
                        with_reducible rfl
                       rotate_left
                       ·simp only [Act.put, zq1, zq2, zq3, i64_w]
                        rfl
                       refine pure_ (i := 6) (N := some 73) (v := ?_) (a' := ?_) #[true, true, true, true, true, true, true, false, false, false, false, false] rfl rfl (any_of HT_.out (by kernel_rfl)) (fun _ _ _ h => h) (Or.inl ⟨by rfl, ?_⟩) ?_ ?_
                       rotate_left
                       ·intro w'
                        go_simp
                        with_reducible rfl
                       rotate_left
                       ·simp only [Act.put, zq1, zq2, zq3, i64_w]
                        rfl
                       refine pure_ (i := 7) (N := some 74) (v := ?_) (a' := ?_) #[true, true, true, true, true, true, true, true, false, false, false, false] rfl rfl (any_of HT_.out (by kernel_rfl)) (fun _ _ _ h => h) (Or.inl ⟨by rfl, ?_⟩) ?_ ?_
                       rotate_left
                       ·intro w'
                        go_simp
                        with_reducible rfl
                       rotate_left
                       ·simp only [Act.put, zq1, zq2, zq3, i64_w]
                        rfl
                       refine pure_ (i := 8) (N := some 75) (v := ?_) (a' := ?_) #[true, true, true, true, true, true, true, true, true, false, false, false] rfl rfl (any_of HT_.out (by kernel_rfl)) (fun _ _ _ h => h) (Or.inl ⟨by rfl, ?_⟩) ?_ ?_
                       rotate_left
                       ·intro w'
                        go_simp
                        with_reducible rfl
                       rotate_left
                       ·simp only [Act.put, zq1, zq2, zq3, i64_w]
                        rfl
                       refine one_ (i := 9) (N := some 76) #[true, true, true, true, true, true, true, true, true, true, false, false] rfl rfl (one_of HT_.out (by kernel_rfl)) (by decide) (fun K hK => ?_)
                       refine goes_ Try.func21 (by kernel_rfl) rfl #[.string (a1.extract (t338 : Int).toNat ((ji28) : Int).toNat)] (by rfl) rfl rfl (by (try simp only [List.map_toArray, List.map_cons, List.map_nil]); first | done | (simp only [hji28]; rfl) | rfl | (simp only [List.length_drop, List.length_take]; rfl)) ?_
                       with_reducible refine (dioramaref03_Sum.calls k2 (a1.extract (t338 : Int).toNat ((ji28) : Int).toNat) t340 _ A35.out).mono ?_
                       rintro e w' ⟨rfl, ⟨nd, rfl⟩⟩
                       refine ⟨_, rfl, ?_⟩
                       refine hK.out _ _ trivial (fun hHeld => ?_)
                       clear hK K
                       refine norm_ (a' := ?_) ?_ ?_
                       rotate_left
                       ·show Act.put _ (some 76) _ = _
                        simp only [Act.put, zq1, zq2, zq3, i64_w]
                        rfl
                       refine one_ (i := 10) (N := some 77) #[true, true, true, true, true, true, true, true, true, true, true, false] rfl rfl (one_of HT_.out (by kernel_rfl)) (by decide) (fun K hK => ?_)
                       refine goes_ Try.func25 (by kernel_rfl) rfl #[.int .u32 t340] (by rfl) rfl rfl zm ?_
                       with_reducible refine (dioramaref03_Put.calls k2 t340 t341 _ A36.out).mono ?_
                       rintro e w50 ⟨rfl, hb⟩
                       refine ⟨_, rfl, ?_⟩
                       have n0_ := Aside0.mk (Kd.R_below (by (with_reducible repeat (first | apply Kd.R_alloc | apply Kd.R_drewN | apply Kd.R_drew)); exact HO_7.out) hb)
                       have n1_ := Aside0.mk (below_step zb hb)
                       clear HO_7
                       clear HB
                       have HO_7 := n0_
                       have HB := n1_
                       clear n0_ n1_
                       (try clear hb)
                       (try clear hb2)
                       (try clear hk)
                       (try clear hi)
                       refine hK.out _ _ trivial (fun hHeld => ?_)
                       clear hK K
                       refine norm_ (a' := ?_) ?_ ?_
                       rotate_left
                       ·show Act.put _ (some 77) _ = _
                        simp only [Act.put, zq1, zq2, zq3, i64_w]
                        rfl
                       refine pure_ (i := 11) (N := some 78) (v := ?_) (a' := ?_) #[true, true, true, true, true, true, true, true, true, true, true, true] rfl rfl (any_of HT_.out (by kernel_rfl)) (fun _ _ _ h => h) (Or.inl ⟨by rfl, ?_⟩) ?_ ?_
                       rotate_left
                       ·intro w'
                        go_simp
                        with_reducible rfl
                       rotate_left
                       ·simp only [Act.put, zq1, zq2, zq3, i64_w]
                        rfl
                       refine done_ (done_of HT_.out (by kernel_rfl)) ?_
                       try go_wp2
                       go_ret3
                       exact ⟨_, by first | rfl | (simp [errW_none, errW_some] <;> rfl) | (simp only [← hji28]; first | rfl | (simp [errW_none, errW_some] <;> rfl)) | (simp [*, errW_none, errW_some] <;> rfl), by first | exact Kd.R_nil _ _ _ _ _ | exact Kd.N_nil _ _ _ _ _ | exact Kd.V_nil _ _ _ _ _ | exact Kd.Q_nil _ _ _ _ _ | exact Kd.S_nil _ _ _ _ _, zb⟩
                     ·rw [if_neg c34] at H
                      exact absurd H (by simp)
                    ·rw [if_neg c33] at H
                     exact absurd H (by simp)
                   ·rw [if_neg c32] at H
                    exact absurd H (by simp)
                  ·rw [if_neg c31] at H
                   exact absurd H (by simp)
                 ·rw [if_neg c30] at H
                  exact absurd H (by simp)
                ·rw [if_neg c29] at H
                 exact absurd H (by simp)
             ·rw [if_neg c23] at H
              have c23b0 : (t339 == 0) = false := beq_eq_false_iff_ne.mpr c23
              have c23b1 : (t339 != 0) = true := bne_iff_ne.mpr c23
              simp only [Option.some.injEq, Prod.mk.injEq] at H
              obtain ⟨rfl, rfl, rfl⟩ := H
              obtain ⟨Ao51, co51, eo51⟩ := Kd.R_slice HO_7.out
              subst eo51
              have p19 : 0 ≤ (x8_2 : Int) := of_decide_eq_true (by first | (with_reducible assumption) | assumption)
              have q19 : x8_2 < (a1.size : Int) := of_decide_eq_true (by first | (with_reducible assumption) | assumption)
              have hx19 := bt_at a1 x8_2
              replace p19 := eq_true p19
              replace q19 := eq_true q19
              go_wp2_with (first | ((with_reducible refine gate_callee (f := 56) rfl ?_); refine goesL_ (some 49) rfl rfl Try.func56 (by kernel_rfl) rfl #[.string a1, .int .i64 (wrap64 (x8_2 + 1))] rfl zm ?_; (with_reducible refine (dioramaref01_Get.calls k2 a1 (wrap64 (x8_2 + 1)) t337 t338 t339 _ A22.out).mono ?_); rintro e w' ⟨rfl, ⟨nd, rfl⟩⟩; refine ⟨_, rfl, ?_⟩))
              go_ret3
              exact ⟨_, by first | rfl | (simp [errW_none, errW_some] <;> rfl) | (simp [*, errW_none, errW_some] <;> rfl), by first | exact Kd.R_nil _ _ _ _ _ | exact Kd.N_nil _ _ _ _ _ | exact Kd.V_nil _ _ _ _ _ | exact Kd.Q_nil _ _ _ _ _ | exact Kd.S_nil _ _ _ _ _, zb⟩
           ·rw [if_neg c18] at H
            exact absurd H (by simp)
         ·rw [if_neg c15] at H
          have c15b0 : decide (x8_2 < (a1.size : Int)) = false := decide_eq_false c15
          clear c15
          by_cases c52 : 4 < (a1.size : Int)
          ·rw [if_pos c52] at H
           have c52b0 : decide (4 < (a1.size : Int)) = true := decide_eq_true c52
           have c52b1 : decide (4 < a1.size) = true := decide_eq_true (by omega)
           clear c52
           simp only [Option.some.injEq, Prod.mk.injEq] at H
           obtain ⟨rfl, rfl, rfl⟩ := H
           have p53 : 0 ≤ (4 : Int) := (by omega)
           have q53 : 4 < a1.size := (by have : (4 : Int) < (a1.size : Int) := of_decide_eq_true (by first | (with_reducible assumption) | assumption); omega)
           have hx53 : ∀ h : 4 < a1.size, ((a1[4]'h).toNat : Int) = bt a1 4 := bt_at a1 4
           clear p53
           have qi53 : (4 < (a1.size : Int)) = True := eq_true (of_decide_eq_true (by first | (with_reducible assumption) | assumption))
           replace q53 := eq_true q53
           go_wp2
           go_ret3
           exact ⟨_, by first | rfl | (simp [errW_none, errW_some] <;> rfl) | (simp [*, errW_none, errW_some] <;> rfl), by (with_reducible repeat (first | apply Kd.R_alloc | apply Kd.R_drewN | apply Kd.R_drew)); exact HO_7.out, zb⟩
          ·rw [if_neg c52] at H
           exact absurd H (by simp)
     ·rw [if_neg c10] at H
      exact absurd H (by simp)
end Go.Proofs.Ytdjpelcdijpihaa.PrintF
