-- Printed for this claim by the session's own driver (xprint.py) out of the translation; Lean checks it.
import Derived.Test.YtdjpelcdijpihaaPrintF0
import Derived.Test.YtdjpelcdijpihaaPrintF5
import Derived.Test.YtdjpelcdijpihaaPrintC1
namespace Go.Proofs.Ytdjpelcdijpihaa.PrintF
open Go.Proofs.Ytdjpelcdijpihaa.Print
open Go.RowKit Go.Proofs.YtdjpelcdijpihaaW.PrintWords Go.Proofs.YtdjpelcdijpihaaW.PrintLast Go.Proofs.YtdjpelcdijpihaaW.PrintMore
attribute [local go_sem] max2_int min2_int max_two min_two max_three min_three max_four min_four   -- for this text's walks alone
set_option linter.unusedVariables false
set_option linter.unusedSimpArgs false

/-! ### dioramaref04_Put: function 31 -/
mutual
def dioramaref04_Put.j0 : Nat → ByteArray → Int → List (S52) → Bool → Option (ByteArray × Int)
  | 0, _, _, _, _ => none
  | k + 1, x0, x1, x2, x18 => if x18 = true then (some ((⟨#[]⟩ : ByteArray), 7)) else (if (x2.length : Int) > 8 then (some ((⟨#[]⟩ : ByteArray), 8)) else ((some (([(x1) % 256] : List Int) : List Int)).bind fun y245 => (if x0.size + (strOfNums y245).size ≤ 9223372036854775807 then (dioramaref04_Put.l0 k x2 (x0 ++ (strOfNums y245)) 0) else (none))))
def dioramaref04_Put.l0 : Nat → List (S52) → ByteArray → Int → Option (ByteArray × Int)
  | 0, _, _, _ => none
  | k + 1, x2, x8, x9 => if x9 < (x2.length : Int) then (if 0 ≤ x9 then (if ((rd_T52 x2 x9).f0) < 1 then (dioramaref04_Put.j2 k x2 x8 x9 true) else (dioramaref04_Put.j2 k x2 x8 x9 (decide (((rd_T52 x2 x9).f0) > 255)))) else (none)) else (some (x8, 0))
def dioramaref04_Put.j2 : Nat → List (S52) → ByteArray → Int → Bool → Option (ByteArray × Int)
  | 0, _, _, _, _ => none
  | k + 1, x2, x8, x9, x47 => if x47 = true then (some ((⟨#[]⟩ : ByteArray), 4)) else (if 0 ≤ x9 then (if x9 < (x2.length : Int) then (if (((rd_T52 x2 x9).f1).size : Int) > 16777216 then (some ((⟨#[]⟩ : ByteArray), 19)) else ((some (([((rd_T52 x2 x9).f0) % 256] : List Int) : List Int)).bind fun y252 => ((dioramaref01_Put.f k (IntKind.u64.wrap ((((rd_T52 x2 x9).f1).size : Int)))).bind fun t256 => (if (strOfNums y252).size + t256.size ≤ 9223372036854775807 then (if ((strOfNums y252) ++ t256).size + ((rd_T52 x2 x9).f1).size ≤ 9223372036854775807 then ((dioramaref03_Sum.f k ((rd_T52 x2 x9).f1)).bind fun t259 => ((dioramaref03_Put.f k t259).bind fun t260 => (if (((strOfNums y252) ++ t256) ++ ((rd_T52 x2 x9).f1)).size + t260.size ≤ 9223372036854775807 then (if x8.size + ((((strOfNums y252) ++ t256) ++ ((rd_T52 x2 x9).f1)) ++ t260).size ≤ 9223372036854775807 then (dioramaref04_Put.l0 k x2 (x8 ++ ((((strOfNums y252) ++ t256) ++ ((rd_T52 x2 x9).f1)) ++ t260)) (wrap64 (x9 + 1))) else (none)) else (none)))) else (none)) else (none))))) else (none)) else (none))
end
def dioramaref04_Put.f (k : Nat) (a0 : ByteArray) (a1 : Int) (l2 : List (S52)) : Option (ByteArray × Int) := if (a0.size : Int) = 4 then (if a1 < 1 then (dioramaref04_Put.j0 k a0 a1 l2 true) else (dioramaref04_Put.j0 k a0 a1 l2 (decide (a1 > 255)))) else (some ((⟨#[]⟩ : ByteArray), 6))
theorem dioramaref04_Put.mono_l : ∀ k, (∀ y0 y1 y2 y3, LeO (dioramaref04_Put.j0 k y0 y1 y2 y3) (dioramaref04_Put.j0 (k + 1) y0 y1 y2 y3)) ∧ (∀ y0 y1 y2, LeO (dioramaref04_Put.l0 k y0 y1 y2) (dioramaref04_Put.l0 (k + 1) y0 y1 y2)) ∧ (∀ y0 y1 y2 y3, LeO (dioramaref04_Put.j2 k y0 y1 y2 y3) (dioramaref04_Put.j2 (k + 1) y0 y1 y2 y3))
  | 0 => ⟨fun _ _ _ _ r h => by simp [dioramaref04_Put.j0] at h, fun _ _ _ r h => by simp [dioramaref04_Put.l0] at h, fun _ _ _ _ r h => by simp [dioramaref04_Put.j2] at h⟩
  | k + 1 => by
    obtain ⟨ih0, ih1, ih2⟩ := dioramaref04_Put.mono_l k
    refine ⟨?_, ?_, ?_⟩
    · intro y0 y1 y2 y3
      unfold dioramaref04_Put.j0
      repeat' first
      | (with_reducible exact ih0 _ _ _ _)
      | (with_reducible exact ih1 _ _ _)
      | (with_reducible exact ih2 _ _ _ _)
      | (with_reducible exact dioramaref01_Put.mono _ _)
      | (with_reducible exact dioramaref03_Put.mono _ _)
      | (with_reducible exact dioramaref03_Sum.mono _ _)
      | (with_reducible exact LeO.refl _)
      | (with_reducible exact LeO.none _)
      | (with_reducible refine LeO.ite ?_ ?_)
      | (with_reducible refine LeO.bind ?_ (fun _ => ?_))
      | exact ih0 _ _ _ _
      | exact ih1 _ _ _
      | exact ih2 _ _ _ _
      | exact dioramaref01_Put.mono _ _
      | exact dioramaref03_Put.mono _ _
      | exact dioramaref03_Sum.mono _ _
      | exact LeO.none _
      | refine LeO.ite ?_ ?_
      | refine LeO.bind ?_ (fun _ => ?_)
    · intro y0 y1 y2
      unfold dioramaref04_Put.l0
      repeat' first
      | (with_reducible exact ih0 _ _ _ _)
      | (with_reducible exact ih1 _ _ _)
      | (with_reducible exact ih2 _ _ _ _)
      | (with_reducible exact dioramaref01_Put.mono _ _)
      | (with_reducible exact dioramaref03_Put.mono _ _)
      | (with_reducible exact dioramaref03_Sum.mono _ _)
      | (with_reducible exact LeO.refl _)
      | (with_reducible exact LeO.none _)
      | (with_reducible refine LeO.ite ?_ ?_)
      | (with_reducible refine LeO.bind ?_ (fun _ => ?_))
      | exact ih0 _ _ _ _
      | exact ih1 _ _ _
      | exact ih2 _ _ _ _
      | exact dioramaref01_Put.mono _ _
      | exact dioramaref03_Put.mono _ _
      | exact dioramaref03_Sum.mono _ _
      | exact LeO.none _
      | refine LeO.ite ?_ ?_
      | refine LeO.bind ?_ (fun _ => ?_)
    · intro y0 y1 y2 y3
      unfold dioramaref04_Put.j2
      repeat' first
      | (with_reducible exact ih0 _ _ _ _)
      | (with_reducible exact ih1 _ _ _)
      | (with_reducible exact ih2 _ _ _ _)
      | (with_reducible exact dioramaref01_Put.mono _ _)
      | (with_reducible exact dioramaref03_Put.mono _ _)
      | (with_reducible exact dioramaref03_Sum.mono _ _)
      | (with_reducible exact LeO.refl _)
      | (with_reducible exact LeO.none _)
      | (with_reducible refine LeO.ite ?_ ?_)
      | (with_reducible refine LeO.bind ?_ (fun _ => ?_))
      | exact ih0 _ _ _ _
      | exact ih1 _ _ _
      | exact ih2 _ _ _ _
      | exact dioramaref01_Put.mono _ _
      | exact dioramaref03_Put.mono _ _
      | exact dioramaref03_Sum.mono _ _
      | exact LeO.none _
      | refine LeO.ite ?_ ?_
      | refine LeO.bind ?_ (fun _ => ?_)
theorem dioramaref04_Put.mono : ∀ a0 a1 a2 k, LeO (dioramaref04_Put.f k a0 a1 a2) (dioramaref04_Put.f (k + 1) a0 a1 a2) := by
  intro a0 a1 a2 k
  obtain ⟨ih0, ih1, ih2⟩ := dioramaref04_Put.mono_l k
  unfold dioramaref04_Put.f
  repeat' first
      | (with_reducible exact ih0 _ _ _ _)
      | (with_reducible exact ih1 _ _ _)
      | (with_reducible exact ih2 _ _ _ _)
      | (with_reducible exact dioramaref01_Put.mono _ _)
      | (with_reducible exact dioramaref03_Put.mono _ _)
      | (with_reducible exact dioramaref03_Sum.mono _ _)
      | (with_reducible exact LeO.refl _)
      | (with_reducible exact LeO.none _)
      | (with_reducible refine LeO.ite ?_ ?_)
      | (with_reducible refine LeO.bind ?_ (fun _ => ?_))
      | exact ih0 _ _ _ _
      | exact ih1 _ _ _
      | exact ih2 _ _ _ _
      | exact dioramaref01_Put.mono _ _
      | exact dioramaref03_Put.mono _ _
      | exact dioramaref03_Sum.mono _ _
      | exact LeO.none _
      | refine LeO.ite ?_ ?_
      | refine LeO.bind ?_ (fun _ => ?_)
def dioramaref04_Put.T15 : Bool × List (List Nat × List Nat) := (true, [([], []), ([], []), ([], []), ([1, 2], [1, 2]), ([3], [3]), ([4], [4]), ([5], [5]), ([6], [6]), ([7], [7]), ([], []), ([], []), ([9, 10], [9, 10]), ([11], [11]), ([12], [12]), ([13], [13]), ([14], [14]), ([15], [15]), ([8, 16], [8, 16]), ([], []), ([], []), ([18, 19], [18, 19]), ([20], [20]), ([21], [21]), ([17, 22], [17, 22]), ([], []), ([], []), ([24, 25], [24, 25]), ([26], [26]), ([27], [27]), ([28, 16], [28]), ([29, 29], [29]), ([23, 30], [23, 30]), ([0, 31], [0, 31]), ([32, 30, 0, 1, 2, 3, 4, 5, 6, 7, 8, 9, 10, 11, 12, 13, 14, 15, 16, 17, 18, 19, 20, 21, 22, 23, 24, 25, 26, 27, 28, 29, 30, 31, 32], [0, 32])])
def dioramaref04_Put.B15 : List Nat := [0, 0, 0, 6, 14, 30, 62, 126, 254, 0, 0, 1536, 3584, 7680, 15872, 32256, 65024, 131070, 0, 0, 786432, 1835008, 3932160, 8388606, 0, 0, 50331648, 117440512, 251658240, 520224256, 1057095168, 2147483646, 4294967295, 8589934591]
theorem dioramaref04_Put.tab15 : rtab .any (opsOf Try.f31 15) = dioramaref04_Put.T15 := by kernel_rfl
theorem dioramaref04_Put.bits15 : waitsOk dioramaref04_Put.T15.2 dioramaref04_Put.B15 = true := by kernel_rfl
set_option maxHeartbeats 8000000 in
set_option maxRecDepth 100000 in
theorem dioramaref04_Put.calls (k : Nat) (a0 : ByteArray) (a1 : Int) (A2 : Option Addr) (c2 : Nat) (l2 : List (S52)) (r1 : ByteArray) (r2 : Int) (w : World) (hr2 : Kd.C k52 w A2 l2.length l2) (hc2 : l2.length ≤ c2) (h : dioramaref04_Put.f k a0 a1 l2 = some (r1, r2)) :
    Calls Try.prog 31 #[.string a0, .int .i64 a1, .slice A2 l2.length c2] w fun e w' => e = .returned (.tuple #[.string r1, .int .i64 r2]) ∧ Below w.heap.size w w' := by
  have HR2 := Aside0.mk hr2
  have HC2 := Aside0.mk hc2
  clear hr2 hc2
  have HB := Aside0.mk (Below.refl w.heap.size w)
  have H : (if (a0.size : Int) = 4 then (if a1 < 1 then (dioramaref04_Put.j0 k a0 a1 l2 true) else (dioramaref04_Put.j0 k a0 a1 l2 (decide (a1 > 255)))) else (some ((⟨#[]⟩ : ByteArray), 6))) = some (r1, r2) := h
  clear h
  by_cases c4 : (a0.size : Int) = 4
  · rw [if_pos c4] at H
    have c4b0 : ((a0.size : Int) == 4) = true := beq_iff_eq.mpr c4
    have c4b1 : ((a0.size : Int) != 4) = false := bne_eq_false_iff_eq.mpr c4
    clear c4
    have HC5 := Aside0.mk H
    clear H
    go_enter Try.func31, Try.ntmps31
    go_upto_region 3 with (fail)
    go_cut [18] (fun v18 wc => ∃ (kq : Nat) (x18_4 : Bool), v18 = .bool x18_4 ∧ Aside0 (dioramaref04_Put.j0 kq a0 a1 l2 x18_4 = some (r1, r2)) ∧ Aside0 (kq ≤ k) ∧ Aside0 (Below w.heap.size w wc))
    case first =>
      have H := HC5.out
      clear HC5
      by_cases c6 : a1 < 1
      · rw [if_pos c6] at H
        have c6b0 : decide (a1 < 1) = true := decide_eq_true c6
        clear c6
        (first | rw [c6b0] | (simp only [i64_w, i32_w]; rw [c6b0]) | skip)
        have H' := Aside0.mk H
        clear H
        go_wp2
        go_meet
        case rel => exact ⟨_, (true), (by first | rfl | (simp; done) | (simp [*]; done)), H', ⟨by first | omega | exact Nat.le_refl _⟩, ⟨by repeat (first | (with_reducible first | exact HB.out | apply below_alloc | apply pw_below_drewN | apply below_drew1) | exact HB.out)⟩⟩
      · rw [if_neg c6] at H
        have c6b0 : decide (a1 < 1) = false := decide_eq_false c6
        clear c6
        (first | rw [c6b0] | (simp only [i64_w, i32_w]; rw [c6b0]) | skip)
        have H' := Aside0.mk H
        clear H
        go_wp2
        go_meet
        case rel => exact ⟨_, (decide (a1 > 255)), (by first | rfl | (simp; done) | (simp [*]; done)), H', ⟨by first | omega | exact Nat.le_refl _⟩, ⟨by repeat (first | (with_reducible first | exact HB.out | apply below_alloc | apply pw_below_drewN | apply below_drew1) | exact HB.out)⟩⟩
    case rest =>
      clear HC5
      try clear c2
      try clear p2
      try clear c3
      try clear c4
      try clear c4b0
      try clear c4b1
      try clear c6
      try clear c6b0
      obtain ⟨kq, x18_4, rfl, HA, HJ4, HB⟩ := hcut
      cases kq with
      | zero => exact absurd HA.out (by simp [dioramaref04_Put.j0])
      | succ kj4 =>
        have H := HA.out
        clear HA
        simp only [dioramaref04_Put.j0] at H
        by_cases c7 : x18_4 = true
        · subst c7
          have H1 : (some ((⟨#[]⟩ : ByteArray), 7)) = some (r1, r2) := by rw [if_pos rfl] at H; exact H
          clear H
          have H := H1
          clear H1
          simp only [Option.some.injEq, Prod.mk.injEq] at H
          obtain ⟨rfl, rfl⟩ := H
          go_wp2
          go_ret2
          exact ⟨by first | rfl | (simp [errW_none, errW_some] <;> rfl) | (simp [*, errW_none, errW_some] <;> rfl), by repeat (first | (with_reducible first | exact HB.out | apply below_alloc | apply pw_below_drewN | apply below_drew1) | exact HB.out)⟩
        · replace c7 := Bool.eq_false_iff.mpr c7
          subst c7
          have H1 : (if (l2.length : Int) > 8 then (some ((⟨#[]⟩ : ByteArray), 8)) else ((some (([(a1) % 256] : List Int) : List Int)).bind fun y245 => (if a0.size + (strOfNums y245).size ≤ 9223372036854775807 then (dioramaref04_Put.l0 kj4 l2 (a0 ++ (strOfNums y245)) 0) else (none)))) = some (r1, r2) := by rw [if_neg (show ¬ (false = true) by decide)] at H; exact H
          clear H
          have H := H1
          clear H1
          by_cases c8 : (l2.length : Int) > 8
          · rw [if_pos c8] at H
            have c8b0 : decide (8 < (l2.length : Int)) = true := decide_eq_true c8
            have c8b1 : decide (8 < l2.length) = true := decide_eq_true (by omega)
            clear c8
            simp only [Option.some.injEq, Prod.mk.injEq] at H
            obtain ⟨rfl, rfl⟩ := H
            go_wp2
            go_ret2
            exact ⟨by first | rfl | (simp [errW_none, errW_some] <;> rfl) | (simp [*, errW_none, errW_some] <;> rfl), by repeat (first | (with_reducible first | exact HB.out | apply below_alloc | apply pw_below_drewN | apply below_drew1) | exact HB.out)⟩
          · rw [if_neg c8] at H
            have c8b0 : decide (8 < (l2.length : Int)) = false := decide_eq_false c8
            have c8b1 : decide (8 < l2.length) = false := decide_eq_false (by omega)
            clear c8
            obtain ⟨y245, hy245⟩ : ∃ y_ : List Int, y_ = (([(a1) % 256] : List Int)) := ⟨_, rfl⟩
            replace H : (if a0.size + (strOfNums y245).size ≤ 9223372036854775807 then (dioramaref04_Put.l0 kj4 l2 (a0 ++ (strOfNums y245)) 0) else (none)) = some (r1, r2) := by first | (rw [hy245]; with_reducible exact H) | (have H2_ := (Option.bind_some _ _).symm.trans H; rw [hy245]; with_reducible exact H2_) | (have H2_ := (Option.bind_some _ _).symm.trans H; with_reducible exact H2_) | with_reducible exact H | (rw [hy245]; exact H) | exact H
            have Ny245 := Aside0.mk hy245
            clear hy245
            by_cases c9 : a0.size + (strOfNums y245).size ≤ 9223372036854775807
            · rw [if_pos c9] at H
              have c9b0 := eq_true c9
              have c9b1 : decide (a0.size + (strOfNums y245).size ≤ 9223372036854775807) = true := decide_eq_true c9
              try have c9b2 : (9223372036854775807 < a0.size + (strOfNums y245).size) = False := eq_false (Nat.not_lt.2 c9)
              have H' := Aside0.mk H
              clear H
              go_wp2_with (first | ((with_reducible refine gate_dst (N := 25) rfl ?_); refine Kd.R_lit (Kd.int .u8) _ 5 ?hg (N := 25) ?hd (xs := ([(a1) % 256] : List Int)) (inner := [.int .u8 ((a1) % 256)]) (ok := fun _ => True) (okp := fun _ => True) ?hr ?hp (fun _ hk => hk) trivial (Below.refl _ _) (Nat.le_refl _) (by simp) ?_; (case hd => rfl); (case hg => rfl); (case hr => first | (go_simp; done) | (go_simp; rfl)); (case hp => exact (Reps.one (show Kd.M (Kd.int .u8) _ _ _ ((a1) % 256) [.int .u8 ((a1) % 256)] from rfl) (Reps.none _ _))); intro v246 w10 ho11 hb hg_ hnew_; clear hg_ hnew_; (first | rw [← Ny245.out] at ho11 | (simp only [Int.reduceToNat] at ho11; rw [← Ny245.out] at ho11)); have n0_ := Aside0.mk (Kd.R_lower ho11 (below_size (by repeat (first | (with_reducible first | exact HB.out | apply below_alloc | apply pw_below_drewN | apply below_drew1) | exact HB.out)))); have n1_ := Aside0.mk (below_step (by repeat (first | (with_reducible first | exact HB.out | apply below_alloc | apply pw_below_drewN | apply below_drew1) | exact HB.out)) hb); clear HB; have HO247 := n0_; have HB := n1_; clear n0_ n1_; clear hb ho11; have hcv12 := own_string (P := Try.prog) Try.underlying72 Try.underlying5 Try.underlying9 (Kd.own_of_R HO247.out)))
              go_loopg [8, 9] kj4 (fun kq v8 v9 w' => ∃ (x8_2 : ByteArray) (x9_2 : Int), v8 = .string x8_2 ∧ v9 = .int .i64 x9_2 ∧ Aside0 (dioramaref04_Put.l0 kq l2 x8_2 x9_2 = some (r1, r2)) ∧ Aside0 (kq ≤ kj4) ∧ Aside0 (Below w.heap.size w w'))
              case atStart => exact ⟨(a0 ++ (strOfNums y245)), (0), (by first | rfl | (simp; done) | (simp [*]; done)), (by first | rfl | (simp; done) | (simp [*]; done)), H', ⟨Nat.le_refl _⟩, ⟨by repeat (first | (with_reducible first | exact HB.out | apply below_alloc | apply pw_below_drewN | apply below_drew1) | exact HB.out)⟩⟩
              case round =>
                clear H'
                try clear hcv1
                try clear c2
                try clear p2
                try clear c3
                try clear c4
                try clear c4b0
                try clear c4b1
                try clear c6
                try clear c6b0
                try clear c7
                try clear c8
                try clear c8b0
                try clear c8b1
                try clear c9
                try clear c9b0
                try clear c9b1
                try clear c9b2
                try clear hcv12
                try clear p2
                obtain ⟨x8_2, x9_2, rfl, rfl, HA, HK2, HB⟩ := hrel
                cases gk with
                | zero => exact absurd HA.out (by simp [dioramaref04_Put.l0])
                | succ k2 =>
                  have H := HA.out
                  clear HA
                  simp only [dioramaref04_Put.l0] at H
                  by_cases c13 : x9_2 < (l2.length : Int)
                  · rw [if_pos c13] at H
                    have c13b0 : decide (x9_2 < (l2.length : Int)) = true := decide_eq_true c13
                    clear c13
                    have HC14 := Aside0.mk H
                    clear H
                    go_upto_region 11 with (fail)
                    go_cut [47] (fun v47 wc => ∃ (kq : Nat) (x47_13 : Bool), v47 = .bool x47_13 ∧ Aside0 (dioramaref04_Put.j2 kq l2 x8_2 x9_2 x47_13 = some (r1, r2)) ∧ Aside0 (kq ≤ k2) ∧ Aside0 (Below w.heap.size w wc))
                    case first =>
                      have H := HC14.out
                      clear HC14
                      by_cases c15 : 0 ≤ x9_2
                      · rw [if_pos c15] at H
                        have c15b0 : decide (0 ≤ x9_2) = true := decide_eq_true c15
                        clear c15
                        (first | rw [c15b0] | (simp only [i64_w, i32_w]; rw [c15b0]) | skip)
                        by_cases c16 : ((rd_T52 l2 x9_2).f0) < 1
                        · rw [if_pos c16] at H
                          have c16b0 : decide (((rd_T52 l2 x9_2).f0) < 1) = true := decide_eq_true c16
                          clear c16
                          have H' := Aside0.mk H
                          clear H
                          have p248 : 0 ≤ (x9_2 : Int) := of_decide_eq_true (by first | (with_reducible assumption) | assumption)
                          have q248 : x9_2 < (l2.length : Int) := of_decide_eq_true (by first | (with_reducible assumption) | assumption)
                          obtain ⟨ad248, e248, hx248_0, hx248_1⟩ := at_T52 HR2.out x9_2 p248 q248
                          cases e248
                          replace hx248_0 := (HB.out.cell (World.block_lt_of_cell? w _ hx248_0)).trans hx248_0
                          replace hx248_1 := (HB.out.cell (World.block_lt_of_cell? w _ hx248_1)).trans hx248_1
                          replace p248 := eq_true p248
                          replace q248 := eq_true q248
                          go_wp2
                          go_meet
                          case rel => exact ⟨_, (true), (by first | rfl | (simp; done) | (simp [*]; done)), H', ⟨by have := HJ4.out; have := HK2.out; first | omega | exact Nat.le_refl _⟩, ⟨by repeat (first | (with_reducible first | exact HB.out | apply below_alloc | apply pw_below_drewN | apply below_drew1) | exact HB.out)⟩⟩
                        · rw [if_neg c16] at H
                          have c16b0 : decide (((rd_T52 l2 x9_2).f0) < 1) = false := decide_eq_false c16
                          clear c16
                          have H' := Aside0.mk H
                          clear H
                          have p248 : 0 ≤ (x9_2 : Int) := of_decide_eq_true (by first | (with_reducible assumption) | assumption)
                          have q248 : x9_2 < (l2.length : Int) := of_decide_eq_true (by first | (with_reducible assumption) | assumption)
                          obtain ⟨ad248, e248, hx248_0, hx248_1⟩ := at_T52 HR2.out x9_2 p248 q248
                          cases e248
                          replace hx248_0 := (HB.out.cell (World.block_lt_of_cell? w _ hx248_0)).trans hx248_0
                          replace hx248_1 := (HB.out.cell (World.block_lt_of_cell? w _ hx248_1)).trans hx248_1
                          replace p248 := eq_true p248
                          replace q248 := eq_true q248
                          have p249 : 0 ≤ (x9_2 : Int) := of_decide_eq_true (by first | (with_reducible assumption) | assumption)
                          have q249 : x9_2 < (l2.length : Int) := of_decide_eq_true (by first | (with_reducible assumption) | assumption)
                          obtain ⟨ad249, e249, hx249_0, hx249_1⟩ := at_T52 HR2.out x9_2 p249 q249
                          obtain rfl : ad248 = ad249 := (by injection e249)
                          replace hx249_0 := (HB.out.cell (World.block_lt_of_cell? w _ hx249_0)).trans hx249_0
                          replace hx249_1 := (HB.out.cell (World.block_lt_of_cell? w _ hx249_1)).trans hx249_1
                          replace p249 := eq_true p249
                          replace q249 := eq_true q249
                          go_wp2
                          go_meet
                          case rel => exact ⟨_, (decide (((rd_T52 l2 x9_2).f0) > 255)), (by first | rfl | (simp; done) | (simp [*]; done)), H', ⟨by have := HJ4.out; have := HK2.out; first | omega | exact Nat.le_refl _⟩, ⟨by repeat (first | (with_reducible first | exact HB.out | apply below_alloc | apply pw_below_drewN | apply below_drew1) | exact HB.out)⟩⟩
                      · rw [if_neg c15] at H
                        exact absurd H (by simp)
                    case rest =>
                      clear HC14
                      try clear c1
                      try clear hcv1
                      try clear c2
                      try clear p2
                      try clear q2
                      try clear hx2
                      try clear c3
                      try clear c4
                      try clear c4b0
                      try clear c4b1
                      try clear c6
                      try clear c6b0
                      try clear c7
                      try clear c8
                      try clear c8b0
                      try clear c8b1
                      try clear c9
                      try clear c9b0
                      try clear c9b1
                      try clear c9b2
                      try clear hcv12
                      try clear c13
                      try clear c13b0
                      try clear c15
                      try clear c15b0
                      try clear c16
                      try clear c16b0
                      try clear hx248_0
                      try clear hx248_1
                      try clear hx249_0
                      try clear hx249_1
                      try clear p2
                      try clear p248
                      try clear p249
                      try clear q248
                      try clear q249
                      obtain ⟨kq, x47_13, rfl, HA, HJ13, HB⟩ := hcut
                      cases kq with
                      | zero => exact absurd HA.out (by simp [dioramaref04_Put.j2])
                      | succ kj13 =>
                        have H := HA.out
                        clear HA
                        simp only [dioramaref04_Put.j2] at H
                        by_cases c17 : x47_13 = true
                        · subst c17
                          have H1 : (some ((⟨#[]⟩ : ByteArray), 4)) = some (r1, r2) := by rw [if_pos rfl] at H; exact H
                          clear H
                          have H := H1
                          clear H1
                          simp only [Option.some.injEq, Prod.mk.injEq] at H
                          obtain ⟨rfl, rfl⟩ := H
                          go_wp2
                          go_ret2
                          exact ⟨by first | rfl | (simp [errW_none, errW_some] <;> rfl) | (simp [*, errW_none, errW_some] <;> rfl), by repeat (first | (with_reducible first | exact HB.out | apply below_alloc | apply pw_below_drewN | apply below_drew1) | exact HB.out)⟩
                        · replace c17 := Bool.eq_false_iff.mpr c17
                          subst c17
                          have H1 : (if 0 ≤ x9_2 then (if x9_2 < (l2.length : Int) then (if (((rd_T52 l2 x9_2).f1).size : Int) > 16777216 then (some ((⟨#[]⟩ : ByteArray), 19)) else ((some (([((rd_T52 l2 x9_2).f0) % 256] : List Int) : List Int)).bind fun y252 => ((dioramaref01_Put.f kj13 (IntKind.u64.wrap ((((rd_T52 l2 x9_2).f1).size : Int)))).bind fun t256 => (if (strOfNums y252).size + t256.size ≤ 9223372036854775807 then (if ((strOfNums y252) ++ t256).size + ((rd_T52 l2 x9_2).f1).size ≤ 9223372036854775807 then ((dioramaref03_Sum.f kj13 ((rd_T52 l2 x9_2).f1)).bind fun t259 => ((dioramaref03_Put.f kj13 t259).bind fun t260 => (if (((strOfNums y252) ++ t256) ++ ((rd_T52 l2 x9_2).f1)).size + t260.size ≤ 9223372036854775807 then (if x8_2.size + ((((strOfNums y252) ++ t256) ++ ((rd_T52 l2 x9_2).f1)) ++ t260).size ≤ 9223372036854775807 then (dioramaref04_Put.l0 kj13 l2 (x8_2 ++ ((((strOfNums y252) ++ t256) ++ ((rd_T52 l2 x9_2).f1)) ++ t260)) (wrap64 (x9_2 + 1))) else (none)) else (none)))) else (none)) else (none))))) else (none)) else (none)) = some (r1, r2) := by rw [if_neg (show ¬ (false = true) by decide)] at H; exact H
                          clear H
                          have H := H1
                          clear H1
                          by_cases c18 : 0 ≤ x9_2
                          · rw [if_pos c18] at H
                            have c18b0 : decide (0 ≤ x9_2) = true := decide_eq_true c18
                            clear c18
                            by_cases c19 : x9_2 < (l2.length : Int)
                            · rw [if_pos c19] at H
                              have c19b0 : decide (x9_2 < (l2.length : Int)) = true := decide_eq_true c19
                              clear c19
                              by_cases c20 : (((rd_T52 l2 x9_2).f1).size : Int) > 16777216
                              · rw [if_pos c20] at H
                                have c20b0 : decide (16777216 < (((rd_T52 l2 x9_2).f1).size : Int)) = true := decide_eq_true c20
                                have c20b1 : decide (16777216 < ((rd_T52 l2 x9_2).f1).size) = true := decide_eq_true (by omega)
                                clear c20
                                simp only [Option.some.injEq, Prod.mk.injEq] at H
                                obtain ⟨rfl, rfl⟩ := H
                                have p250 : 0 ≤ (x9_2 : Int) := of_decide_eq_true (by first | (with_reducible assumption) | assumption)
                                have q250 : x9_2 < (l2.length : Int) := of_decide_eq_true (by first | (with_reducible assumption) | assumption)
                                obtain ⟨ad250, e250, hx250_0, hx250_1⟩ := at_T52 HR2.out x9_2 p250 q250
                                cases e250
                                replace hx250_0 := (HB.out.cell (World.block_lt_of_cell? w _ hx250_0)).trans hx250_0
                                replace hx250_1 := (HB.out.cell (World.block_lt_of_cell? w _ hx250_1)).trans hx250_1
                                replace p250 := eq_true p250
                                replace q250 := eq_true q250
                                go_wp2
                                go_ret2
                                exact ⟨by first | rfl | (simp [errW_none, errW_some] <;> rfl) | (simp [*, errW_none, errW_some] <;> rfl), by repeat (first | (with_reducible first | exact HB.out | apply below_alloc | apply pw_below_drewN | apply below_drew1) | exact HB.out)⟩
                              · rw [if_neg c20] at H
                                have c20b0 : decide (16777216 < (((rd_T52 l2 x9_2).f1).size : Int)) = false := decide_eq_false c20
                                have c20b1 : decide (16777216 < ((rd_T52 l2 x9_2).f1).size) = false := decide_eq_false (by omega)
                                clear c20
                                obtain ⟨y252, hy252⟩ : ∃ y_ : List Int, y_ = (([((rd_T52 l2 x9_2).f0) % 256] : List Int)) := ⟨_, rfl⟩
                                replace H : ((dioramaref01_Put.f kj13 (IntKind.u64.wrap ((((rd_T52 l2 x9_2).f1).size : Int)))).bind fun t256 => (if (strOfNums y252).size + t256.size ≤ 9223372036854775807 then (if ((strOfNums y252) ++ t256).size + ((rd_T52 l2 x9_2).f1).size ≤ 9223372036854775807 then ((dioramaref03_Sum.f kj13 ((rd_T52 l2 x9_2).f1)).bind fun t259 => ((dioramaref03_Put.f kj13 t259).bind fun t260 => (if (((strOfNums y252) ++ t256) ++ ((rd_T52 l2 x9_2).f1)).size + t260.size ≤ 9223372036854775807 then (if x8_2.size + ((((strOfNums y252) ++ t256) ++ ((rd_T52 l2 x9_2).f1)) ++ t260).size ≤ 9223372036854775807 then (dioramaref04_Put.l0 kj13 l2 (x8_2 ++ ((((strOfNums y252) ++ t256) ++ ((rd_T52 l2 x9_2).f1)) ++ t260)) (wrap64 (x9_2 + 1))) else (none)) else (none)))) else (none)) else (none))) = some (r1, r2) := by first | (rw [hy252]; with_reducible exact H) | (have H2_ := (Option.bind_some _ _).symm.trans H; rw [hy252]; with_reducible exact H2_) | (have H2_ := (Option.bind_some _ _).symm.trans H; with_reducible exact H2_) | with_reducible exact H | (rw [hy252]; exact H) | exact H
                                have Ny252 := Aside0.mk hy252
                                clear hy252
                                replace H := Option.bind_eq_some_iff.mp H
                                obtain ⟨t256, A210, H⟩ := H
                                replace H : (if (strOfNums y252).size + t256.size ≤ 9223372036854775807 then (if ((strOfNums y252) ++ t256).size + ((rd_T52 l2 x9_2).f1).size ≤ 9223372036854775807 then ((dioramaref03_Sum.f kj13 ((rd_T52 l2 x9_2).f1)).bind fun t259 => ((dioramaref03_Put.f kj13 t259).bind fun t260 => (if (((strOfNums y252) ++ t256) ++ ((rd_T52 l2 x9_2).f1)).size + t260.size ≤ 9223372036854775807 then (if x8_2.size + ((((strOfNums y252) ++ t256) ++ ((rd_T52 l2 x9_2).f1)) ++ t260).size ≤ 9223372036854775807 then (dioramaref04_Put.l0 kj13 l2 (x8_2 ++ ((((strOfNums y252) ++ t256) ++ ((rd_T52 l2 x9_2).f1)) ++ t260)) (wrap64 (x9_2 + 1))) else (none)) else (none)))) else (none)) else (none)) = some (r1, r2) := H
                                have A21 := Aside0.mk A210
                                clear A210
                                by_cases c22 : (strOfNums y252).size + t256.size ≤ 9223372036854775807
                                · rw [if_pos c22] at H
                                  have c22b0 := eq_true c22
                                  have c22b1 : decide ((strOfNums y252).size + t256.size ≤ 9223372036854775807) = true := decide_eq_true c22
                                  try have c22b2 : (9223372036854775807 < (strOfNums y252).size + t256.size) = False := eq_false (Nat.not_lt.2 c22)
                                  by_cases c23 : ((strOfNums y252) ++ t256).size + ((rd_T52 l2 x9_2).f1).size ≤ 9223372036854775807
                                  · rw [if_pos c23] at H
                                    have c23b0 := eq_true c23
                                    have c23b1 : decide (((strOfNums y252) ++ t256).size + ((rd_T52 l2 x9_2).f1).size ≤ 9223372036854775807) = true := decide_eq_true c23
                                    try have c23b2 : (9223372036854775807 < ((strOfNums y252) ++ t256).size + ((rd_T52 l2 x9_2).f1).size) = False := eq_false (Nat.not_lt.2 c23)
                                    have c23b3 := c23b2
                                    simp only [ByteArray.size_append] at c23b3
                                    replace H := Option.bind_eq_some_iff.mp H
                                    obtain ⟨t259, A240, H⟩ := H
                                    replace H : ((dioramaref03_Put.f kj13 t259).bind fun t260 => (if (((strOfNums y252) ++ t256) ++ ((rd_T52 l2 x9_2).f1)).size + t260.size ≤ 9223372036854775807 then (if x8_2.size + ((((strOfNums y252) ++ t256) ++ ((rd_T52 l2 x9_2).f1)) ++ t260).size ≤ 9223372036854775807 then (dioramaref04_Put.l0 kj13 l2 (x8_2 ++ ((((strOfNums y252) ++ t256) ++ ((rd_T52 l2 x9_2).f1)) ++ t260)) (wrap64 (x9_2 + 1))) else (none)) else (none))) = some (r1, r2) := H
                                    have A24 := Aside0.mk A240
                                    clear A240
                                    replace H := Option.bind_eq_some_iff.mp H
                                    obtain ⟨t260, A250, H⟩ := H
                                    replace H : (if (((strOfNums y252) ++ t256) ++ ((rd_T52 l2 x9_2).f1)).size + t260.size ≤ 9223372036854775807 then (if x8_2.size + ((((strOfNums y252) ++ t256) ++ ((rd_T52 l2 x9_2).f1)) ++ t260).size ≤ 9223372036854775807 then (dioramaref04_Put.l0 kj13 l2 (x8_2 ++ ((((strOfNums y252) ++ t256) ++ ((rd_T52 l2 x9_2).f1)) ++ t260)) (wrap64 (x9_2 + 1))) else (none)) else (none)) = some (r1, r2) := H
                                    have A25 := Aside0.mk A250
                                    clear A250
                                    by_cases c26 : (((strOfNums y252) ++ t256) ++ ((rd_T52 l2 x9_2).f1)).size + t260.size ≤ 9223372036854775807
                                    · rw [if_pos c26] at H
                                      have c26b0 := eq_true c26
                                      have c26b1 : decide ((((strOfNums y252) ++ t256) ++ ((rd_T52 l2 x9_2).f1)).size + t260.size ≤ 9223372036854775807) = true := decide_eq_true c26
                                      try have c26b2 : (9223372036854775807 < (((strOfNums y252) ++ t256) ++ ((rd_T52 l2 x9_2).f1)).size + t260.size) = False := eq_false (Nat.not_lt.2 c26)
                                      have c26b3 := c26b2
                                      simp only [ByteArray.size_append] at c26b3
                                      by_cases c27 : x8_2.size + ((((strOfNums y252) ++ t256) ++ ((rd_T52 l2 x9_2).f1)) ++ t260).size ≤ 9223372036854775807
                                      · rw [if_pos c27] at H
                                        have c27b0 := eq_true c27
                                        have c27b1 : decide (x8_2.size + ((((strOfNums y252) ++ t256) ++ ((rd_T52 l2 x9_2).f1)) ++ t260).size ≤ 9223372036854775807) = true := decide_eq_true c27
                                        try have c27b2 : (9223372036854775807 < x8_2.size + ((((strOfNums y252) ++ t256) ++ ((rd_T52 l2 x9_2).f1)) ++ t260).size) = False := eq_false (Nat.not_lt.2 c27)
                                        have c27b3 := c27b2
                                        simp only [ByteArray.size_append] at c27b3
                                        have H' := Aside0.mk H
                                        clear H
                                        have p250 : 0 ≤ (x9_2 : Int) := of_decide_eq_true (by first | (with_reducible assumption) | assumption)
                                        have q250 : x9_2 < (l2.length : Int) := of_decide_eq_true (by first | (with_reducible assumption) | assumption)
                                        obtain ⟨ad250, e250, hx250_0, hx250_1⟩ := at_T52 HR2.out x9_2 p250 q250
                                        cases e250
                                        replace hx250_0 := (HB.out.cell (World.block_lt_of_cell? w _ hx250_0)).trans hx250_0
                                        replace hx250_1 := (HB.out.cell (World.block_lt_of_cell? w _ hx250_1)).trans hx250_1
                                        replace p250 := eq_true p250
                                        replace q250 := eq_true q250
                                        try go_wp2
                                        have n0_ := Aside0.mk (below_drew1 HB.out)
                                        clear HB
                                        have HB := n0_
                                        clear n0_
                                        have p251 : 0 ≤ (x9_2 : Int) := of_decide_eq_true (by first | (with_reducible assumption) | assumption)
                                        have q251 : x9_2 < (l2.length : Int) := of_decide_eq_true (by first | (with_reducible assumption) | assumption)
                                        obtain ⟨ad251, e251, hx251_0, hx251_1⟩ := at_T52 HR2.out x9_2 p251 q251
                                        have hw251_1 := hx251_1
                                        have hw251_0 := hx251_0
                                        obtain rfl : ad250 = ad251 := (by injection e251)
                                        replace hx251_0 := (HB.out.cell (World.block_lt_of_cell? w _ hx251_0)).trans hx251_0
                                        replace hx251_1 := (HB.out.cell (World.block_lt_of_cell? w _ hx251_1)).trans hx251_1
                                        replace p251 := eq_true p251
                                        replace q251 := eq_true q251
                                        have p255 : 0 ≤ (x9_2 : Int) := of_decide_eq_true (by first | (with_reducible assumption) | assumption)
                                        have q255 : x9_2 < (l2.length : Int) := of_decide_eq_true (by first | (with_reducible assumption) | assumption)
                                        obtain ⟨ad255, e255, hx255_0, hx255_1⟩ := at_T52 HR2.out x9_2 p255 q255
                                        have hw255_1 := hx255_1
                                        have hw255_0 := hx255_0
                                        obtain rfl : ad250 = ad255 := (by injection e255)
                                        replace hx255_0 := (HB.out.cell (World.block_lt_of_cell? w _ hx255_0)).trans hx255_0
                                        replace hx255_1 := (HB.out.cell (World.block_lt_of_cell? w _ hx255_1)).trans hx255_1
                                        replace p255 := eq_true p255
                                        replace q255 := eq_true q255
                                        have p257 : 0 ≤ (x9_2 : Int) := of_decide_eq_true (by first | (with_reducible assumption) | assumption)
                                        have q257 : x9_2 < (l2.length : Int) := of_decide_eq_true (by first | (with_reducible assumption) | assumption)
                                        obtain ⟨ad257, e257, hx257_0, hx257_1⟩ := at_T52 HR2.out x9_2 p257 q257
                                        have hw257_1 := hx257_1
                                        have hw257_0 := hx257_0
                                        obtain rfl : ad250 = ad257 := (by injection e257)
                                        replace hx257_0 := (HB.out.cell (World.block_lt_of_cell? w _ hx257_0)).trans hx257_0
                                        replace hx257_1 := (HB.out.cell (World.block_lt_of_cell? w _ hx257_1)).trans hx257_1
                                        replace p257 := eq_true p257
                                        replace q257 := eq_true q257
                                        have p258 : 0 ≤ (x9_2 : Int) := of_decide_eq_true (by first | (with_reducible assumption) | assumption)
                                        have q258 : x9_2 < (l2.length : Int) := of_decide_eq_true (by first | (with_reducible assumption) | assumption)
                                        obtain ⟨ad258, e258, hx258_0, hx258_1⟩ := at_T52 HR2.out x9_2 p258 q258
                                        have hw258_1 := hx258_1
                                        have hw258_0 := hx258_0
                                        obtain rfl : ad250 = ad258 := (by injection e258)
                                        replace hx258_0 := (HB.out.cell (World.block_lt_of_cell? w _ hx258_0)).trans hx258_0
                                        replace hx258_1 := (HB.out.cell (World.block_lt_of_cell? w _ hx258_1)).trans hx258_1
                                        replace p258 := eq_true p258
                                        replace q258 := eq_true q258
                                        refine start_ (n := 34) (S := fun w' => w'.cell? (ad250.add ((x9_2).toNat * 2)) = some (.int .i64 ((rd_T52 l2 x9_2).f0)) ∧ w'.cell? ⟨(ad250.add ((x9_2).toNat * 2)).block, (ad250.add ((x9_2).toNat * 2)).off + 1, none⟩ = some (.string ((rd_T52 l2 x9_2).f1)) ∧ w'.cell? (ad250.add ((x9_2).toNat * 2)) = some (.int .i64 ((rd_T52 l2 x9_2).f0)) ∧ w'.cell? ⟨(ad250.add ((x9_2).toNat * 2)).block, (ad250.add ((x9_2).toNat * 2)).off + 1, none⟩ = some (.string ((rd_T52 l2 x9_2).f1)) ∧ w'.cell? (ad250.add ((x9_2).toNat * 2)) = some (.int .i64 ((rd_T52 l2 x9_2).f0)) ∧ w'.cell? ⟨(ad250.add ((x9_2).toNat * 2)).block, (ad250.add ((x9_2).toNat * 2)).off + 1, none⟩ = some (.string ((rd_T52 l2 x9_2).f1)) ∧ w'.cell? (ad250.add ((x9_2).toNat * 2)) = some (.int .i64 ((rd_T52 l2 x9_2).f0)) ∧ w'.cell? ⟨(ad250.add ((x9_2).toNat * 2)).block, (ad250.add ((x9_2).toNat * 2)).off + 1, none⟩ = some (.string ((rd_T52 l2 x9_2).f1))) (ds := []) #[false, false, false, false, false, false, false, false, false, false, false, false, false, false, false, false, false, false, false, false, false, false, false, false, false, false, false, false, false, false, false, false, false, false] (by kernel_rfl) rfl rfl ⟨((HB.out.cell (World.block_lt_of_cell? w _ hw251_0)).trans hw251_0), ((HB.out.cell (World.block_lt_of_cell? w _ hw251_1)).trans hw251_1), ((HB.out.cell (World.block_lt_of_cell? w _ hw255_0)).trans hw255_0), ((HB.out.cell (World.block_lt_of_cell? w _ hw255_1)).trans hw255_1), ((HB.out.cell (World.block_lt_of_cell? w _ hw257_0)).trans hw257_0), ((HB.out.cell (World.block_lt_of_cell? w _ hw257_1)).trans hw257_1), ((HB.out.cell (World.block_lt_of_cell? w _ hw258_0)).trans hw258_0), ((HB.out.cell (World.block_lt_of_cell? w _ hw258_1)).trans hw258_1)⟩ (fun hHeld => ?_); refine with_tabW dioramaref04_Put.tab15 dioramaref04_Put.bits15 (fun HT_ HW_ => ?_)
                                        generalize wc.drew = w28 at HB hx251_0 hx251_1 hx255_0 hx255_1 hx257_0 hx257_1 hx258_0 hx258_1 hHeld ⊢
                                        refine pure_ (i := 0) (N := some 55) (v := ?_) (a' := ?_) #[true, false, false, false, false, false, false, false, false, false, false, false, false, false, false, false, false, false, false, false, false, false, false, false, false, false, false, false, false, false, false, false, false, false] rfl rfl (any_of HT_.out (by kernel_rfl)) (fun _ _ _ h => h) (Or.inl ⟨by rfl, ?_⟩) ?_ ?_
                                        rotate_left
                                        · intro w'
                                          go_simp
                                          with_reducible rfl
                                        rotate_left
                                        · simp only [Act.put, List.setIfInBounds_toArray, List.set_cons_zero, List.set_cons_succ, i64_w, i32_w]
                                          rfl
                                        refine pure_ (i := 1) (N := some 56) (v := ?_) (a' := ?_) #[true, true, false, false, false, false, false, false, false, false, false, false, false, false, false, false, false, false, false, false, false, false, false, false, false, false, false, false, false, false, false, false, false, false] rfl rfl (any_of HT_.out (by kernel_rfl)) (fun _ _ _ h => h) (Or.inl ⟨by rfl, ?_⟩) ?_ ?_
                                        rotate_left
                                        · intro w'
                                          go_simp
                                          with_reducible rfl
                                        rotate_left
                                        · simp only [Act.put, List.setIfInBounds_toArray, List.set_cons_zero, List.set_cons_succ, i64_w, i32_w]
                                          rfl
                                        refine pure_ (i := 2) (N := some 57) (v := ?_) (a' := ?_) #[true, true, true, false, false, false, false, false, false, false, false, false, false, false, false, false, false, false, false, false, false, false, false, false, false, false, false, false, false, false, false, false, false, false] rfl rfl (any_of HT_.out (by kernel_rfl)) (fun _ _ _ h => h) (Or.inl ⟨by rfl, ?_⟩) ?_ ?_
                                        rotate_left
                                        · intro w'
                                          go_simp
                                          with_reducible rfl
                                        rotate_left
                                        · simp only [Act.put, List.setIfInBounds_toArray, List.set_cons_zero, List.set_cons_succ, i64_w, i32_w]
                                          rfl
                                        refine pure_ (i := 3) (N := some 58) (v := ?_) (a' := ?_) #[true, true, true, true, false, false, false, false, false, false, false, false, false, false, false, false, false, false, false, false, false, false, false, false, false, false, false, false, false, false, false, false, false, false] rfl rfl (any_of HT_.out (by kernel_rfl)) (fun _ _ _ h => h) (Or.inl ⟨by rfl, ?_⟩) ?_ ?_
                                        rotate_left
                                        · intro w'
                                          go_simp
                                          with_reducible rfl
                                        rotate_left
                                        · simp only [Act.put, List.setIfInBounds_toArray, List.set_cons_zero, List.set_cons_succ, i64_w, i32_w]
                                          rfl
                                        refine pure_ (i := 4) (N := some 59) (v := ?_) (a' := ?_) #[true, true, true, true, true, false, false, false, false, false, false, false, false, false, false, false, false, false, false, false, false, false, false, false, false, false, false, false, false, false, false, false, false, false] rfl rfl (any_of HT_.out (by kernel_rfl)) (fun _ _ _ h => h) (Or.inl ⟨by rfl, ?_⟩) ?_ ?_
                                        rotate_left
                                        · intro w'
                                          go_simp
                                          with_reducible rfl
                                        rotate_left
                                        · simp only [Act.put, List.setIfInBounds_toArray, List.set_cons_zero, List.set_cons_succ, i64_w, i32_w]
                                          rfl
                                        refine pure_ (i := 9) (N := some 64) (v := ?_) (a' := ?_) #[true, true, true, true, true, false, false, false, false, true, false, false, false, false, false, false, false, false, false, false, false, false, false, false, false, false, false, false, false, false, false, false, false, false] rfl rfl (any_of HT_.out (by kernel_rfl)) (fun _ _ _ h => h) (Or.inl ⟨by rfl, ?_⟩) ?_ ?_
                                        rotate_left
                                        · intro w'
                                          go_simp
                                          with_reducible rfl
                                        rotate_left
                                        · simp only [Act.put, List.setIfInBounds_toArray, List.set_cons_zero, List.set_cons_succ, i64_w, i32_w]
                                          rfl
                                        refine pure_ (i := 10) (N := some 65) (v := ?_) (a' := ?_) #[true, true, true, true, true, false, false, false, false, true, true, false, false, false, false, false, false, false, false, false, false, false, false, false, false, false, false, false, false, false, false, false, false, false] rfl rfl (any_of HT_.out (by kernel_rfl)) (fun _ _ _ h => h) (Or.inl ⟨by rfl, ?_⟩) ?_ ?_
                                        rotate_left
                                        · intro w'
                                          go_simp
                                          with_reducible rfl
                                        rotate_left
                                        · simp only [Act.put, List.setIfInBounds_toArray, List.set_cons_zero, List.set_cons_succ, i64_w, i32_w]
                                          rfl
                                        refine pure_ (i := 11) (N := some 66) (v := ?_) (a' := ?_) #[true, true, true, true, true, false, false, false, false, true, true, true, false, false, false, false, false, false, false, false, false, false, false, false, false, false, false, false, false, false, false, false, false, false] rfl rfl (any_of HT_.out (by kernel_rfl)) (fun _ _ _ h => h) (Or.inl ⟨by rfl, ?_⟩) ?_ ?_
                                        rotate_left
                                        · intro w'
                                          go_simp
                                          with_reducible rfl
                                        rotate_left
                                        · simp only [Act.put, List.setIfInBounds_toArray, List.set_cons_zero, List.set_cons_succ, i64_w, i32_w]
                                          rfl
                                        refine pure_ (i := 12) (N := some 67) (v := ?_) (a' := ?_) #[true, true, true, true, true, false, false, false, false, true, true, true, true, false, false, false, false, false, false, false, false, false, false, false, false, false, false, false, false, false, false, false, false, false] rfl rfl (any_of HT_.out (by kernel_rfl)) (fun _ _ _ h => h) (Or.inl ⟨by rfl, ?_⟩) ?_ ?_
                                        rotate_left
                                        · intro w'
                                          go_simp
                                          with_reducible rfl
                                        rotate_left
                                        · simp only [Act.put, List.setIfInBounds_toArray, List.set_cons_zero, List.set_cons_succ, i64_w, i32_w]
                                          rfl
                                        refine pure_ (i := 18) (N := some 73) (v := ?_) (a' := ?_) #[true, true, true, true, true, false, false, false, false, true, true, true, true, false, false, false, false, false, true, false, false, false, false, false, false, false, false, false, false, false, false, false, false, false] rfl rfl (any_of HT_.out (by kernel_rfl)) (fun _ _ _ h => h) (Or.inl ⟨by rfl, ?_⟩) ?_ ?_
                                        rotate_left
                                        · intro w'
                                          go_simp
                                          with_reducible rfl
                                        rotate_left
                                        · simp only [Act.put, List.setIfInBounds_toArray, List.set_cons_zero, List.set_cons_succ, i64_w, i32_w]
                                          rfl
                                        refine pure_ (i := 19) (N := some 74) (v := ?_) (a' := ?_) #[true, true, true, true, true, false, false, false, false, true, true, true, true, false, false, false, false, false, true, true, false, false, false, false, false, false, false, false, false, false, false, false, false, false] rfl rfl (any_of HT_.out (by kernel_rfl)) (fun _ _ _ h => h) (Or.inl ⟨by rfl, ?_⟩) ?_ ?_
                                        rotate_left
                                        · intro w'
                                          go_simp
                                          with_reducible rfl
                                        rotate_left
                                        · simp only [Act.put, List.setIfInBounds_toArray, List.set_cons_zero, List.set_cons_succ, i64_w, i32_w]
                                          rfl
                                        refine pure_ (i := 20) (N := some 75) (v := ?_) (a' := ?_) #[true, true, true, true, true, false, false, false, false, true, true, true, true, false, false, false, false, false, true, true, true, false, false, false, false, false, false, false, false, false, false, false, false, false] rfl rfl (any_of HT_.out (by kernel_rfl)) (fun _ _ _ h => h) (Or.inl ⟨by rfl, ?_⟩) ?_ ?_
                                        rotate_left
                                        · intro w'
                                          go_simp
                                          with_reducible rfl
                                        rotate_left
                                        · simp only [Act.put, List.setIfInBounds_toArray, List.set_cons_zero, List.set_cons_succ, i64_w, i32_w]
                                          rfl
                                        refine pure_ (i := 21) (N := some 76) (v := ?_) (a' := ?_) #[true, true, true, true, true, false, false, false, false, true, true, true, true, false, false, false, false, false, true, true, true, true, false, false, false, false, false, false, false, false, false, false, false, false] rfl rfl (any_of HT_.out (by kernel_rfl)) (fun _ _ _ h => h) (Or.inl ⟨by rfl, ?_⟩) ?_ ?_
                                        rotate_left
                                        · intro w'
                                          go_simp
                                          with_reducible rfl
                                        rotate_left
                                        · simp only [Act.put, List.setIfInBounds_toArray, List.set_cons_zero, List.set_cons_succ, i64_w, i32_w]
                                          rfl
                                        refine pure_ (i := 24) (N := some 79) (v := ?_) (a' := ?_) #[true, true, true, true, true, false, false, false, false, true, true, true, true, false, false, false, false, false, true, true, true, true, false, false, true, false, false, false, false, false, false, false, false, false] rfl rfl (any_of HT_.out (by kernel_rfl)) (fun _ _ _ h => h) (Or.inl ⟨by rfl, ?_⟩) ?_ ?_
                                        rotate_left
                                        · intro w'
                                          go_simp
                                          with_reducible rfl
                                        rotate_left
                                        · simp only [Act.put, List.setIfInBounds_toArray, List.set_cons_zero, List.set_cons_succ, i64_w, i32_w]
                                          rfl
                                        refine pure_ (i := 25) (N := some 80) (v := ?_) (a' := ?_) #[true, true, true, true, true, false, false, false, false, true, true, true, true, false, false, false, false, false, true, true, true, true, false, false, true, true, false, false, false, false, false, false, false, false] rfl rfl (any_of HT_.out (by kernel_rfl)) (fun _ _ _ h => h) (Or.inl ⟨by rfl, ?_⟩) ?_ ?_
                                        rotate_left
                                        · intro w'
                                          go_simp
                                          with_reducible rfl
                                        rotate_left
                                        · simp only [Act.put, List.setIfInBounds_toArray, List.set_cons_zero, List.set_cons_succ, i64_w, i32_w]
                                          rfl
                                        refine pure_ (i := 26) (N := some 81) (v := ?_) (a' := ?_) #[true, true, true, true, true, false, false, false, false, true, true, true, true, false, false, false, false, false, true, true, true, true, false, false, true, true, true, false, false, false, false, false, false, false] rfl rfl (any_of HT_.out (by kernel_rfl)) (fun _ _ _ h => h) (Or.inl ⟨by rfl, ?_⟩) ?_ ?_
                                        rotate_left
                                        · intro w'
                                          go_simp
                                          with_reducible rfl
                                        rotate_left
                                        · simp only [Act.put, List.setIfInBounds_toArray, List.set_cons_zero, List.set_cons_succ, i64_w, i32_w]
                                          rfl
                                        refine pure_ (i := 27) (N := some 82) (v := ?_) (a' := ?_) #[true, true, true, true, true, false, false, false, false, true, true, true, true, false, false, false, false, false, true, true, true, true, false, false, true, true, true, true, false, false, false, false, false, false] rfl rfl (any_of HT_.out (by kernel_rfl)) (fun _ _ _ h => h) (Or.inl ⟨by rfl, ?_⟩) ?_ ?_
                                        rotate_left
                                        · intro w'
                                          go_simp
                                          with_reducible rfl
                                        rotate_left
                                        · simp only [Act.put, List.setIfInBounds_toArray, List.set_cons_zero, List.set_cons_succ, i64_w, i32_w]
                                          rfl
                                        refine take_ (i := 5) (N := some 60) (v := ?_) (a' := ?_) #[true, true, true, true, true, true, false, false, false, true, true, true, true, false, false, false, false, false, true, true, true, true, false, false, true, true, true, true, false, false, false, false, false, false] rfl rfl (take_ofW HT_.out HW_.out (by kernel_rfl)) (fun _ _ _ h => h) (Or.inl ⟨by rfl, ?_⟩) hHeld ?_ ?_
                                        rotate_left
                                        · rintro w' ⟨s0, s1, s2, s3, s4, s5, s6, s7⟩
                                          go_simp
                                          with_reducible rfl
                                        rotate_left
                                        · simp only [Act.put, List.setIfInBounds_toArray, List.set_cons_zero, List.set_cons_succ, i64_w, i32_w]
                                          rfl
                                        refine pure_ (i := 6) (N := some 61) (v := ?_) (a' := ?_) #[true, true, true, true, true, true, true, false, false, true, true, true, true, false, false, false, false, false, true, true, true, true, false, false, true, true, true, true, false, false, false, false, false, false] rfl rfl (any_of HT_.out (by kernel_rfl)) (fun _ _ _ h => h) (Or.inl ⟨by rfl, ?_⟩) ?_ ?_
                                        rotate_left
                                        · intro w'
                                          go_simp
                                          with_reducible rfl
                                        rotate_left
                                        · simp only [Act.put, List.setIfInBounds_toArray, List.set_cons_zero, List.set_cons_succ, i64_w, i32_w]
                                          rfl
                                        refine take_ (i := 13) (N := some 68) (v := ?_) (a' := ?_) #[true, true, true, true, true, true, true, false, false, true, true, true, true, true, false, false, false, false, true, true, true, true, false, false, true, true, true, true, false, false, false, false, false, false] rfl rfl (take_ofW HT_.out HW_.out (by kernel_rfl)) (fun _ _ _ h => h) (Or.inl ⟨by rfl, ?_⟩) hHeld ?_ ?_
                                        rotate_left
                                        · rintro w' ⟨s0, s1, s2, s3, s4, s5, s6, s7⟩
                                          go_simp
                                          with_reducible rfl
                                        rotate_left
                                        · simp only [Act.put, List.setIfInBounds_toArray, List.set_cons_zero, List.set_cons_succ, i64_w, i32_w]
                                          rfl
                                        refine pure_ (i := 14) (N := some 69) (v := ?_) (a' := ?_) #[true, true, true, true, true, true, true, false, false, true, true, true, true, true, true, false, false, false, true, true, true, true, false, false, true, true, true, true, false, false, false, false, false, false] rfl rfl (any_of HT_.out (by kernel_rfl)) (fun _ _ _ h => h) (Or.inl ⟨by rfl, ?_⟩) ?_ ?_
                                        rotate_left
                                        · intro w'
                                          go_simp
                                          with_reducible rfl
                                        rotate_left
                                        · simp only [Act.put, List.setIfInBounds_toArray, List.set_cons_zero, List.set_cons_succ, i64_w, i32_w]
                                          rfl
                                        refine pure_ (i := 15) (N := some 70) (v := ?_) (a' := ?_) #[true, true, true, true, true, true, true, false, false, true, true, true, true, true, true, true, false, false, true, true, true, true, false, false, true, true, true, true, false, false, false, false, false, false] rfl rfl (any_of HT_.out (by kernel_rfl)) (fun _ _ _ h => h) (Or.inl ⟨by rfl, ?_⟩) ?_ ?_
                                        rotate_left
                                        · intro w'
                                          go_simp
                                          with_reducible rfl
                                        rotate_left
                                        · simp only [Act.put, List.setIfInBounds_toArray, List.set_cons_zero, List.set_cons_succ, i64_w, i32_w]
                                          rfl
                                        refine take_ (i := 22) (N := some 77) (v := ?_) (a' := ?_) #[true, true, true, true, true, true, true, false, false, true, true, true, true, true, true, true, false, false, true, true, true, true, true, false, true, true, true, true, false, false, false, false, false, false] rfl rfl (take_ofW HT_.out HW_.out (by kernel_rfl)) (fun _ _ _ h => h) (Or.inl ⟨by rfl, ?_⟩) hHeld ?_ ?_
                                        rotate_left
                                        · rintro w' ⟨s0, s1, s2, s3, s4, s5, s6, s7⟩
                                          go_simp
                                          with_reducible rfl
                                        rotate_left
                                        · simp only [Act.put, List.setIfInBounds_toArray, List.set_cons_zero, List.set_cons_succ, i64_w, i32_w]
                                          rfl
                                        refine take_ (i := 28) (N := some 83) (v := ?_) (a' := ?_) #[true, true, true, true, true, true, true, false, false, true, true, true, true, true, true, true, false, false, true, true, true, true, true, false, true, true, true, true, true, false, false, false, false, false] rfl rfl (take_ofW HT_.out HW_.out (by kernel_rfl)) (fun _ _ _ h => h) (Or.inl ⟨by rfl, ?_⟩) hHeld ?_ ?_
                                        rotate_left
                                        · rintro w' ⟨s0, s1, s2, s3, s4, s5, s6, s7⟩
                                          go_simp
                                          with_reducible rfl
                                        rotate_left
                                        · simp only [Act.put, List.setIfInBounds_toArray, List.set_cons_zero, List.set_cons_succ, i64_w, i32_w]
                                          rfl
                                        refine join_ (σ := Value) 3 #[true, true, true, true, true, true, true, true, true, true, true, true, true, true, true, true, true, true, true, true, true, true, true, true, true, true, true, true, true, true, true, false, false, false] (fun s_ => [(62, s_), (63, .string (strOfNums y252)), (71, .string t256), (84, .int .u32 t259), (85, .string t260), (72, .string ((strOfNums y252) ++ t256)), (78, .string (((strOfNums y252) ++ t256) ++ ((rd_T52 l2 x9_2).f1)))]) (fun s_ w' => (w'.cell? (ad250.add ((x9_2).toNat * 2)) = some (.int .i64 ((rd_T52 l2 x9_2).f0)) ∧ w'.cell? ⟨(ad250.add ((x9_2).toNat * 2)).block, (ad250.add ((x9_2).toNat * 2)).off + 1, none⟩ = some (.string ((rd_T52 l2 x9_2).f1)) ∧ w'.cell? (ad250.add ((x9_2).toNat * 2)) = some (.int .i64 ((rd_T52 l2 x9_2).f0)) ∧ w'.cell? ⟨(ad250.add ((x9_2).toNat * 2)).block, (ad250.add ((x9_2).toNat * 2)).off + 1, none⟩ = some (.string ((rd_T52 l2 x9_2).f1)) ∧ w'.cell? (ad250.add ((x9_2).toNat * 2)) = some (.int .i64 ((rd_T52 l2 x9_2).f0)) ∧ w'.cell? ⟨(ad250.add ((x9_2).toNat * 2)).block, (ad250.add ((x9_2).toNat * 2)).off + 1, none⟩ = some (.string ((rd_T52 l2 x9_2).f1)) ∧ w'.cell? (ad250.add ((x9_2).toNat * 2)) = some (.int .i64 ((rd_T52 l2 x9_2).f0)) ∧ w'.cell? ⟨(ad250.add ((x9_2).toNat * 2)).block, (ad250.add ((x9_2).toNat * 2)).off + 1, none⟩ = some (.string ((rd_T52 l2 x9_2).f1))) ∧ (Kd.R (Kd.int .u8) 5 w' w.heap.size (fun _ => True) s_ y252) ∧ (Below w.heap.size w w')) ?_ ?_
                                        rotate_left
                                        · intro hJ7_8_16_29_30
                                          refine join_ (σ := Value) 4 #[true, true, true, true, true, true, true, true, true, true, true, true, true, true, true, true, true, true, true, true, true, true, true, true, true, true, true, true, true, true, false, false, false, false] (fun s_ => [(62, s_), (63, .string (strOfNums y252)), (71, .string t256), (84, .int .u32 t259), (72, .string ((strOfNums y252) ++ t256)), (78, .string (((strOfNums y252) ++ t256) ++ ((rd_T52 l2 x9_2).f1)))]) (fun s_ w' => (w'.cell? (ad250.add ((x9_2).toNat * 2)) = some (.int .i64 ((rd_T52 l2 x9_2).f0)) ∧ w'.cell? ⟨(ad250.add ((x9_2).toNat * 2)).block, (ad250.add ((x9_2).toNat * 2)).off + 1, none⟩ = some (.string ((rd_T52 l2 x9_2).f1)) ∧ w'.cell? (ad250.add ((x9_2).toNat * 2)) = some (.int .i64 ((rd_T52 l2 x9_2).f0)) ∧ w'.cell? ⟨(ad250.add ((x9_2).toNat * 2)).block, (ad250.add ((x9_2).toNat * 2)).off + 1, none⟩ = some (.string ((rd_T52 l2 x9_2).f1)) ∧ w'.cell? (ad250.add ((x9_2).toNat * 2)) = some (.int .i64 ((rd_T52 l2 x9_2).f0)) ∧ w'.cell? ⟨(ad250.add ((x9_2).toNat * 2)).block, (ad250.add ((x9_2).toNat * 2)).off + 1, none⟩ = some (.string ((rd_T52 l2 x9_2).f1)) ∧ w'.cell? (ad250.add ((x9_2).toNat * 2)) = some (.int .i64 ((rd_T52 l2 x9_2).f0)) ∧ w'.cell? ⟨(ad250.add ((x9_2).toNat * 2)).block, (ad250.add ((x9_2).toNat * 2)).off + 1, none⟩ = some (.string ((rd_T52 l2 x9_2).f1))) ∧ (Kd.R (Kd.int .u8) 5 w' w.heap.size (fun _ => True) s_ y252) ∧ (Below w.heap.size w w')) ?_ ?_
                                          rotate_left
                                          · intro hJ7_8_16_29
                                            refine join_ (σ := Value) 6 #[true, true, true, true, true, true, true, true, false, true, true, true, true, true, true, true, true, false, true, true, true, true, true, false, true, true, true, true, true, true, true, false, false, false] (fun s_ => [(62, s_), (71, .string t256), (84, .int .u32 t259), (85, .string t260)]) (fun s_ w' => (w'.cell? (ad250.add ((x9_2).toNat * 2)) = some (.int .i64 ((rd_T52 l2 x9_2).f0)) ∧ w'.cell? ⟨(ad250.add ((x9_2).toNat * 2)).block, (ad250.add ((x9_2).toNat * 2)).off + 1, none⟩ = some (.string ((rd_T52 l2 x9_2).f1)) ∧ w'.cell? (ad250.add ((x9_2).toNat * 2)) = some (.int .i64 ((rd_T52 l2 x9_2).f0)) ∧ w'.cell? ⟨(ad250.add ((x9_2).toNat * 2)).block, (ad250.add ((x9_2).toNat * 2)).off + 1, none⟩ = some (.string ((rd_T52 l2 x9_2).f1)) ∧ w'.cell? (ad250.add ((x9_2).toNat * 2)) = some (.int .i64 ((rd_T52 l2 x9_2).f0)) ∧ w'.cell? ⟨(ad250.add ((x9_2).toNat * 2)).block, (ad250.add ((x9_2).toNat * 2)).off + 1, none⟩ = some (.string ((rd_T52 l2 x9_2).f1)) ∧ w'.cell? (ad250.add ((x9_2).toNat * 2)) = some (.int .i64 ((rd_T52 l2 x9_2).f0)) ∧ w'.cell? ⟨(ad250.add ((x9_2).toNat * 2)).block, (ad250.add ((x9_2).toNat * 2)).off + 1, none⟩ = some (.string ((rd_T52 l2 x9_2).f1))) ∧ (Kd.R (Kd.int .u8) 5 w' w.heap.size (fun _ => True) s_ y252) ∧ (Below w.heap.size w w')) ?_ ?_
                                            rotate_left
                                            · intro hJ7_16_29_30
                                              refine join_ (σ := Value) 5 #[true, true, true, true, true, true, true, true, true, true, true, true, true, true, true, true, true, true, true, true, true, true, true, true, true, true, true, true, true, false, false, false, false, false] (fun s_ => [(62, s_), (63, .string (strOfNums y252)), (71, .string t256), (72, .string ((strOfNums y252) ++ t256)), (78, .string (((strOfNums y252) ++ t256) ++ ((rd_T52 l2 x9_2).f1)))]) (fun s_ w' => (w'.cell? (ad250.add ((x9_2).toNat * 2)) = some (.int .i64 ((rd_T52 l2 x9_2).f0)) ∧ w'.cell? ⟨(ad250.add ((x9_2).toNat * 2)).block, (ad250.add ((x9_2).toNat * 2)).off + 1, none⟩ = some (.string ((rd_T52 l2 x9_2).f1)) ∧ w'.cell? (ad250.add ((x9_2).toNat * 2)) = some (.int .i64 ((rd_T52 l2 x9_2).f0)) ∧ w'.cell? ⟨(ad250.add ((x9_2).toNat * 2)).block, (ad250.add ((x9_2).toNat * 2)).off + 1, none⟩ = some (.string ((rd_T52 l2 x9_2).f1)) ∧ w'.cell? (ad250.add ((x9_2).toNat * 2)) = some (.int .i64 ((rd_T52 l2 x9_2).f0)) ∧ w'.cell? ⟨(ad250.add ((x9_2).toNat * 2)).block, (ad250.add ((x9_2).toNat * 2)).off + 1, none⟩ = some (.string ((rd_T52 l2 x9_2).f1)) ∧ w'.cell? (ad250.add ((x9_2).toNat * 2)) = some (.int .i64 ((rd_T52 l2 x9_2).f0)) ∧ w'.cell? ⟨(ad250.add ((x9_2).toNat * 2)).block, (ad250.add ((x9_2).toNat * 2)).off + 1, none⟩ = some (.string ((rd_T52 l2 x9_2).f1))) ∧ (Kd.R (Kd.int .u8) 5 w' w.heap.size (fun _ => True) s_ y252) ∧ (Below w.heap.size w w')) ?_ ?_
                                              rotate_left
                                              · intro hJ7_8_16
                                                refine join_ (σ := Value) 7 #[true, true, true, true, true, true, true, true, false, true, true, true, true, true, true, true, true, false, true, true, true, true, true, false, true, true, true, true, true, true, false, false, false, false] (fun s_ => [(62, s_), (71, .string t256), (84, .int .u32 t259)]) (fun s_ w' => (w'.cell? (ad250.add ((x9_2).toNat * 2)) = some (.int .i64 ((rd_T52 l2 x9_2).f0)) ∧ w'.cell? ⟨(ad250.add ((x9_2).toNat * 2)).block, (ad250.add ((x9_2).toNat * 2)).off + 1, none⟩ = some (.string ((rd_T52 l2 x9_2).f1)) ∧ w'.cell? (ad250.add ((x9_2).toNat * 2)) = some (.int .i64 ((rd_T52 l2 x9_2).f0)) ∧ w'.cell? ⟨(ad250.add ((x9_2).toNat * 2)).block, (ad250.add ((x9_2).toNat * 2)).off + 1, none⟩ = some (.string ((rd_T52 l2 x9_2).f1)) ∧ w'.cell? (ad250.add ((x9_2).toNat * 2)) = some (.int .i64 ((rd_T52 l2 x9_2).f0)) ∧ w'.cell? ⟨(ad250.add ((x9_2).toNat * 2)).block, (ad250.add ((x9_2).toNat * 2)).off + 1, none⟩ = some (.string ((rd_T52 l2 x9_2).f1)) ∧ w'.cell? (ad250.add ((x9_2).toNat * 2)) = some (.int .i64 ((rd_T52 l2 x9_2).f0)) ∧ w'.cell? ⟨(ad250.add ((x9_2).toNat * 2)).block, (ad250.add ((x9_2).toNat * 2)).off + 1, none⟩ = some (.string ((rd_T52 l2 x9_2).f1))) ∧ (Kd.R (Kd.int .u8) 5 w' w.heap.size (fun _ => True) s_ y252) ∧ (Below w.heap.size w w')) ?_ ?_
                                                rotate_left
                                                · intro hJ7_16_29
                                                  refine join_ (σ := Unit) 7 #[true, true, true, true, true, true, true, false, false, true, true, true, true, true, true, true, true, false, true, true, true, true, true, false, true, true, true, true, true, true, true, false, false, false] (fun s_ => [(71, .string t256), (84, .int .u32 t259), (85, .string t260)]) (fun s_ w' => (w'.cell? (ad250.add ((x9_2).toNat * 2)) = some (.int .i64 ((rd_T52 l2 x9_2).f0)) ∧ w'.cell? ⟨(ad250.add ((x9_2).toNat * 2)).block, (ad250.add ((x9_2).toNat * 2)).off + 1, none⟩ = some (.string ((rd_T52 l2 x9_2).f1)) ∧ w'.cell? (ad250.add ((x9_2).toNat * 2)) = some (.int .i64 ((rd_T52 l2 x9_2).f0)) ∧ w'.cell? ⟨(ad250.add ((x9_2).toNat * 2)).block, (ad250.add ((x9_2).toNat * 2)).off + 1, none⟩ = some (.string ((rd_T52 l2 x9_2).f1)) ∧ w'.cell? (ad250.add ((x9_2).toNat * 2)) = some (.int .i64 ((rd_T52 l2 x9_2).f0)) ∧ w'.cell? ⟨(ad250.add ((x9_2).toNat * 2)).block, (ad250.add ((x9_2).toNat * 2)).off + 1, none⟩ = some (.string ((rd_T52 l2 x9_2).f1)) ∧ w'.cell? (ad250.add ((x9_2).toNat * 2)) = some (.int .i64 ((rd_T52 l2 x9_2).f0)) ∧ w'.cell? ⟨(ad250.add ((x9_2).toNat * 2)).block, (ad250.add ((x9_2).toNat * 2)).off + 1, none⟩ = some (.string ((rd_T52 l2 x9_2).f1))) ∧ (Below w.heap.size w w')) ?_ ?_
                                                  rotate_left
                                                  · intro hJ16_29_30
                                                    refine join_ (σ := Value) 8 #[true, true, true, true, true, true, true, true, true, true, true, true, true, true, true, true, false, false, true, true, true, true, true, false, true, true, true, true, true, false, false, false, false, false] (fun s_ => [(62, s_), (63, .string (strOfNums y252))]) (fun s_ w' => (w'.cell? (ad250.add ((x9_2).toNat * 2)) = some (.int .i64 ((rd_T52 l2 x9_2).f0)) ∧ w'.cell? ⟨(ad250.add ((x9_2).toNat * 2)).block, (ad250.add ((x9_2).toNat * 2)).off + 1, none⟩ = some (.string ((rd_T52 l2 x9_2).f1)) ∧ w'.cell? (ad250.add ((x9_2).toNat * 2)) = some (.int .i64 ((rd_T52 l2 x9_2).f0)) ∧ w'.cell? ⟨(ad250.add ((x9_2).toNat * 2)).block, (ad250.add ((x9_2).toNat * 2)).off + 1, none⟩ = some (.string ((rd_T52 l2 x9_2).f1)) ∧ w'.cell? (ad250.add ((x9_2).toNat * 2)) = some (.int .i64 ((rd_T52 l2 x9_2).f0)) ∧ w'.cell? ⟨(ad250.add ((x9_2).toNat * 2)).block, (ad250.add ((x9_2).toNat * 2)).off + 1, none⟩ = some (.string ((rd_T52 l2 x9_2).f1)) ∧ w'.cell? (ad250.add ((x9_2).toNat * 2)) = some (.int .i64 ((rd_T52 l2 x9_2).f0)) ∧ w'.cell? ⟨(ad250.add ((x9_2).toNat * 2)).block, (ad250.add ((x9_2).toNat * 2)).off + 1, none⟩ = some (.string ((rd_T52 l2 x9_2).f1))) ∧ (Kd.R (Kd.int .u8) 5 w' w.heap.size (fun _ => True) s_ y252) ∧ (Below w.heap.size w w')) ?_ ?_
                                                    rotate_left
                                                    · intro hJ7_8
                                                      refine join_ (σ := Value) 8 #[true, true, true, true, true, true, true, true, false, true, true, true, true, true, true, true, true, false, true, true, true, true, true, false, true, true, true, true, true, false, false, false, false, false] (fun s_ => [(62, s_), (71, .string t256)]) (fun s_ w' => (w'.cell? (ad250.add ((x9_2).toNat * 2)) = some (.int .i64 ((rd_T52 l2 x9_2).f0)) ∧ w'.cell? ⟨(ad250.add ((x9_2).toNat * 2)).block, (ad250.add ((x9_2).toNat * 2)).off + 1, none⟩ = some (.string ((rd_T52 l2 x9_2).f1)) ∧ w'.cell? (ad250.add ((x9_2).toNat * 2)) = some (.int .i64 ((rd_T52 l2 x9_2).f0)) ∧ w'.cell? ⟨(ad250.add ((x9_2).toNat * 2)).block, (ad250.add ((x9_2).toNat * 2)).off + 1, none⟩ = some (.string ((rd_T52 l2 x9_2).f1)) ∧ w'.cell? (ad250.add ((x9_2).toNat * 2)) = some (.int .i64 ((rd_T52 l2 x9_2).f0)) ∧ w'.cell? ⟨(ad250.add ((x9_2).toNat * 2)).block, (ad250.add ((x9_2).toNat * 2)).off + 1, none⟩ = some (.string ((rd_T52 l2 x9_2).f1)) ∧ w'.cell? (ad250.add ((x9_2).toNat * 2)) = some (.int .i64 ((rd_T52 l2 x9_2).f0)) ∧ w'.cell? ⟨(ad250.add ((x9_2).toNat * 2)).block, (ad250.add ((x9_2).toNat * 2)).off + 1, none⟩ = some (.string ((rd_T52 l2 x9_2).f1))) ∧ (Kd.R (Kd.int .u8) 5 w' w.heap.size (fun _ => True) s_ y252) ∧ (Below w.heap.size w w')) ?_ ?_
                                                      rotate_left
                                                      · intro hJ7_16
                                                        refine join_ (σ := Unit) 8 #[true, true, true, true, true, true, true, false, false, true, true, true, true, true, true, true, true, false, true, true, true, true, true, false, true, true, true, true, true, true, false, false, false, false] (fun s_ => [(71, .string t256), (84, .int .u32 t259)]) (fun s_ w' => (w'.cell? (ad250.add ((x9_2).toNat * 2)) = some (.int .i64 ((rd_T52 l2 x9_2).f0)) ∧ w'.cell? ⟨(ad250.add ((x9_2).toNat * 2)).block, (ad250.add ((x9_2).toNat * 2)).off + 1, none⟩ = some (.string ((rd_T52 l2 x9_2).f1)) ∧ w'.cell? (ad250.add ((x9_2).toNat * 2)) = some (.int .i64 ((rd_T52 l2 x9_2).f0)) ∧ w'.cell? ⟨(ad250.add ((x9_2).toNat * 2)).block, (ad250.add ((x9_2).toNat * 2)).off + 1, none⟩ = some (.string ((rd_T52 l2 x9_2).f1)) ∧ w'.cell? (ad250.add ((x9_2).toNat * 2)) = some (.int .i64 ((rd_T52 l2 x9_2).f0)) ∧ w'.cell? ⟨(ad250.add ((x9_2).toNat * 2)).block, (ad250.add ((x9_2).toNat * 2)).off + 1, none⟩ = some (.string ((rd_T52 l2 x9_2).f1)) ∧ w'.cell? (ad250.add ((x9_2).toNat * 2)) = some (.int .i64 ((rd_T52 l2 x9_2).f0)) ∧ w'.cell? ⟨(ad250.add ((x9_2).toNat * 2)).block, (ad250.add ((x9_2).toNat * 2)).off + 1, none⟩ = some (.string ((rd_T52 l2 x9_2).f1))) ∧ (Below w.heap.size w w')) ?_ ?_
                                                        rotate_left
                                                        · intro hJ16_29
                                                          refine join_ (σ := Value) 9 #[true, true, true, true, true, true, true, true, false, true, true, true, true, true, true, true, false, false, true, true, true, true, true, false, true, true, true, true, true, false, false, false, false, false] (fun s_ => [(62, s_)]) (fun s_ w' => (w'.cell? (ad250.add ((x9_2).toNat * 2)) = some (.int .i64 ((rd_T52 l2 x9_2).f0)) ∧ w'.cell? ⟨(ad250.add ((x9_2).toNat * 2)).block, (ad250.add ((x9_2).toNat * 2)).off + 1, none⟩ = some (.string ((rd_T52 l2 x9_2).f1)) ∧ w'.cell? (ad250.add ((x9_2).toNat * 2)) = some (.int .i64 ((rd_T52 l2 x9_2).f0)) ∧ w'.cell? ⟨(ad250.add ((x9_2).toNat * 2)).block, (ad250.add ((x9_2).toNat * 2)).off + 1, none⟩ = some (.string ((rd_T52 l2 x9_2).f1)) ∧ w'.cell? (ad250.add ((x9_2).toNat * 2)) = some (.int .i64 ((rd_T52 l2 x9_2).f0)) ∧ w'.cell? ⟨(ad250.add ((x9_2).toNat * 2)).block, (ad250.add ((x9_2).toNat * 2)).off + 1, none⟩ = some (.string ((rd_T52 l2 x9_2).f1)) ∧ w'.cell? (ad250.add ((x9_2).toNat * 2)) = some (.int .i64 ((rd_T52 l2 x9_2).f0)) ∧ w'.cell? ⟨(ad250.add ((x9_2).toNat * 2)).block, (ad250.add ((x9_2).toNat * 2)).off + 1, none⟩ = some (.string ((rd_T52 l2 x9_2).f1))) ∧ (Kd.R (Kd.int .u8) 5 w' w.heap.size (fun _ => True) s_ y252) ∧ (Below w.heap.size w w')) ?_ ?_
                                                          rotate_left
                                                          · intro hJ7
                                                            refine join_ (σ := Unit) 9 #[true, true, true, true, true, true, true, false, false, true, true, true, true, true, true, true, true, false, true, true, true, true, true, false, true, true, true, true, true, false, false, false, false, false] (fun s_ => [(71, .string t256)]) (fun s_ w' => (w'.cell? (ad250.add ((x9_2).toNat * 2)) = some (.int .i64 ((rd_T52 l2 x9_2).f0)) ∧ w'.cell? ⟨(ad250.add ((x9_2).toNat * 2)).block, (ad250.add ((x9_2).toNat * 2)).off + 1, none⟩ = some (.string ((rd_T52 l2 x9_2).f1)) ∧ w'.cell? (ad250.add ((x9_2).toNat * 2)) = some (.int .i64 ((rd_T52 l2 x9_2).f0)) ∧ w'.cell? ⟨(ad250.add ((x9_2).toNat * 2)).block, (ad250.add ((x9_2).toNat * 2)).off + 1, none⟩ = some (.string ((rd_T52 l2 x9_2).f1)) ∧ w'.cell? (ad250.add ((x9_2).toNat * 2)) = some (.int .i64 ((rd_T52 l2 x9_2).f0)) ∧ w'.cell? ⟨(ad250.add ((x9_2).toNat * 2)).block, (ad250.add ((x9_2).toNat * 2)).off + 1, none⟩ = some (.string ((rd_T52 l2 x9_2).f1)) ∧ w'.cell? (ad250.add ((x9_2).toNat * 2)) = some (.int .i64 ((rd_T52 l2 x9_2).f0)) ∧ w'.cell? ⟨(ad250.add ((x9_2).toNat * 2)).block, (ad250.add ((x9_2).toNat * 2)).off + 1, none⟩ = some (.string ((rd_T52 l2 x9_2).f1))) ∧ (Below w.heap.size w w')) ?_ ?_
                                                            rotate_left
                                                            · intro hJ16
                                                              refine two_ (i := 7) (j := 16) (Ni := some 62) (Nj := some 71) #[true, true, true, true, true, true, true, true, false, true, true, true, true, true, true, true, false, false, true, true, true, true, true, false, true, true, true, true, true, false, false, false, false, false] #[true, true, true, true, true, true, true, false, false, true, true, true, true, true, true, true, true, false, true, true, true, true, true, false, true, true, true, true, true, false, false, false, false, false] rfl rfl rfl rfl (two_of HT_.out (by kernel_rfl)) (by decide) (by decide) (fun K hK => ?_) (fun K hK => ?_)
                                                              · skip
                                                                refine Kd.R_lit_step (Kd.int .u8) _ 5 ?hg (N := 62) ?hd (xs := ([((rd_T52 l2 x9_2).f0) % 256] : List Int)) (inner := [.int .u8 (((rd_T52 l2 x9_2).f0) % 256)]) (ok := fun _ => True) (okp := fun _ => True) ?hr ?hp (fun _ hk => hk) trivial (Below.refl _ _) (Nat.le_refl _) (by simp) ?_; (case hd => rfl); (case hg => rfl); (case hr => first | (go_simp; done) | (go_simp; rfl)); (case hp => exact (Reps.one (show Kd.M (Kd.int .u8) _ _ _ (((rd_T52 l2 x9_2).f0) % 256) [.int .u8 (((rd_T52 l2 x9_2).f0) % 256)] from rfl) (Reps.none _ _)))
                                                                intro v253 w29 ho30 hb hg_ hnew_
                                                                clear hg_ hnew_
                                                                (first | rw [← Ny252.out] at ho30 | (simp only [Int.reduceToNat] at ho30; rw [← Ny252.out] at ho30))
                                                                have n0_ := Aside0.mk (Kd.R_lower ho30 (below_size (by repeat (first | (with_reducible first | exact HB.out | apply below_alloc | apply pw_below_drewN | apply below_drew1) | exact HB.out))))
                                                                have n1_ := Aside0.mk (below_step (by repeat (first | (with_reducible first | exact HB.out | apply below_alloc | apply pw_below_drewN | apply below_drew1) | exact HB.out)) hb)
                                                                clear HB
                                                                have HO254 := n0_
                                                                have HB := n1_
                                                                clear n0_ n1_
                                                                clear hb ho30
                                                                refine hK.out _ _ ⟨((HB.out.cell (World.block_lt_of_cell? w _ hw251_0)).trans hw251_0), ((HB.out.cell (World.block_lt_of_cell? w _ hw251_1)).trans hw251_1), ((HB.out.cell (World.block_lt_of_cell? w _ hw255_0)).trans hw255_0), ((HB.out.cell (World.block_lt_of_cell? w _ hw255_1)).trans hw255_1), ((HB.out.cell (World.block_lt_of_cell? w _ hw257_0)).trans hw257_0), ((HB.out.cell (World.block_lt_of_cell? w _ hw257_1)).trans hw257_1), ((HB.out.cell (World.block_lt_of_cell? w _ hw258_0)).trans hw258_0), ((HB.out.cell (World.block_lt_of_cell? w _ hw258_1)).trans hw258_1)⟩ (fun hHeld => ?_)
                                                                clear hK K
                                                                refine norm_ (a' := ?_) ?_ ?_
                                                                rotate_left
                                                                · show Act.put _ (some 62) _ = _
                                                                  simp only [Act.put, List.setIfInBounds_toArray, List.set_cons_zero, List.set_cons_succ, i64_w, i32_w]
                                                                  rfl
                                                                exact norm_ (by first | (simp only [putAll, Act.put, List.setIfInBounds_toArray, List.set_cons_zero, List.set_cons_succ]; done) | (simp only [putAll, Act.put, List.setIfInBounds_toArray, List.set_cons_zero, List.set_cons_succ]; rfl)) (hJ7 (v253) _ ⟨hHeld, (by (with_reducible repeat (first | apply Kd.R_alloc | apply Kd.R_drewN | apply Kd.R_drew)); exact HO254.out), (by repeat (first | (with_reducible first | exact HB.out | apply below_alloc | apply pw_below_drewN | apply below_drew1) | exact HB.out))⟩)
                                                              · skip
                                                                refine goes_ Try.func48 (by kernel_rfl) rfl #[.int .u64 (IntKind.u64.wrap ((((rd_T52 l2 x9_2).f1).size : Int)))] (by rfl) rfl rfl (by (try simp only [List.map_toArray, List.map_cons, List.map_nil]); first | done | rfl | (simp only [List.length_drop, List.length_take]; rfl)) ?_
                                                                with_reducible refine (dioramaref01_Put.calls kj13 (IntKind.u64.wrap ((((rd_T52 l2 x9_2).f1).size : Int))) t256 _ A21.out).mono ?_
                                                                rintro e w29 ⟨rfl, hb⟩
                                                                refine ⟨_, rfl, ?_⟩
                                                                have n0_ := Aside0.mk (below_step (by repeat (first | (with_reducible first | exact HB.out | apply below_alloc | apply pw_below_drewN | apply below_drew1) | exact HB.out)) hb)
                                                                clear HB
                                                                have HB := n0_
                                                                clear n0_
                                                                (try clear hb)
                                                                (try clear hb2)
                                                                (try clear hk)
                                                                (try clear hi)
                                                                refine hK.out _ _ ⟨((HB.out.cell (World.block_lt_of_cell? w _ hw251_0)).trans hw251_0), ((HB.out.cell (World.block_lt_of_cell? w _ hw251_1)).trans hw251_1), ((HB.out.cell (World.block_lt_of_cell? w _ hw255_0)).trans hw255_0), ((HB.out.cell (World.block_lt_of_cell? w _ hw255_1)).trans hw255_1), ((HB.out.cell (World.block_lt_of_cell? w _ hw257_0)).trans hw257_0), ((HB.out.cell (World.block_lt_of_cell? w _ hw257_1)).trans hw257_1), ((HB.out.cell (World.block_lt_of_cell? w _ hw258_0)).trans hw258_0), ((HB.out.cell (World.block_lt_of_cell? w _ hw258_1)).trans hw258_1)⟩ (fun hHeld => ?_)
                                                                clear hK K
                                                                refine norm_ (a' := ?_) ?_ ?_
                                                                rotate_left
                                                                · show Act.put _ (some 71) _ = _
                                                                  simp only [Act.put, List.setIfInBounds_toArray, List.set_cons_zero, List.set_cons_succ, i64_w, i32_w]
                                                                  rfl
                                                                exact norm_ (by first | (simp only [putAll, Act.put, List.setIfInBounds_toArray, List.set_cons_zero, List.set_cons_succ]; done) | (simp only [putAll, Act.put, List.setIfInBounds_toArray, List.set_cons_zero, List.set_cons_succ]; rfl)) (hJ16 () _ ⟨hHeld, (by repeat (first | (with_reducible first | exact HB.out | apply below_alloc | apply pw_below_drewN | apply below_drew1) | exact HB.out))⟩)
                                                            · skip
                                                              rintro _ w30 ⟨hS_, h0_⟩
                                                              have n0_ : Aside0 (Below w.heap.size w w30) := ⟨h0_⟩
                                                              clear HB
                                                              clear h0_
                                                              have HB := n0_
                                                              clear n0_
                                                              have hHeld : w30.cell? (ad250.add ((x9_2).toNat * 2)) = some (.int .i64 ((rd_T52 l2 x9_2).f0)) ∧ w30.cell? ⟨(ad250.add ((x9_2).toNat * 2)).block, (ad250.add ((x9_2).toNat * 2)).off + 1, none⟩ = some (.string ((rd_T52 l2 x9_2).f1)) ∧ w30.cell? (ad250.add ((x9_2).toNat * 2)) = some (.int .i64 ((rd_T52 l2 x9_2).f0)) ∧ w30.cell? ⟨(ad250.add ((x9_2).toNat * 2)).block, (ad250.add ((x9_2).toNat * 2)).off + 1, none⟩ = some (.string ((rd_T52 l2 x9_2).f1)) ∧ w30.cell? (ad250.add ((x9_2).toNat * 2)) = some (.int .i64 ((rd_T52 l2 x9_2).f0)) ∧ w30.cell? ⟨(ad250.add ((x9_2).toNat * 2)).block, (ad250.add ((x9_2).toNat * 2)).off + 1, none⟩ = some (.string ((rd_T52 l2 x9_2).f1)) ∧ w30.cell? (ad250.add ((x9_2).toNat * 2)) = some (.int .i64 ((rd_T52 l2 x9_2).f0)) ∧ w30.cell? ⟨(ad250.add ((x9_2).toNat * 2)).block, (ad250.add ((x9_2).toNat * 2)).off + 1, none⟩ = some (.string ((rd_T52 l2 x9_2).f1)) := hS_
                                                              refine norm_ (a' := ?_) ?_ ?_
                                                              rotate_left
                                                              · simp only [putAll, Act.put, List.setIfInBounds_toArray, List.set_cons_zero, List.set_cons_succ]
                                                                rfl
                                                              refine two_ (i := 7) (j := 29) (Ni := some 62) (Nj := some 84) #[true, true, true, true, true, true, true, true, false, true, true, true, true, true, true, true, true, false, true, true, true, true, true, false, true, true, true, true, true, false, false, false, false, false] #[true, true, true, true, true, true, true, false, false, true, true, true, true, true, true, true, true, false, true, true, true, true, true, false, true, true, true, true, true, true, false, false, false, false] rfl rfl rfl rfl (two_of HT_.out (by kernel_rfl)) (by decide) (by decide) (fun K hK => ?_) (fun K hK => ?_)
                                                              · skip
                                                                refine Kd.R_lit_step (Kd.int .u8) _ 5 ?hg (N := 62) ?hd (xs := ([((rd_T52 l2 x9_2).f0) % 256] : List Int)) (inner := [.int .u8 (((rd_T52 l2 x9_2).f0) % 256)]) (ok := fun _ => True) (okp := fun _ => True) ?hr ?hp (fun _ hk => hk) trivial (Below.refl _ _) (Nat.le_refl _) (by simp) ?_; (case hd => rfl); (case hg => rfl); (case hr => first | (go_simp; done) | (go_simp; rfl)); (case hp => exact (Reps.one (show Kd.M (Kd.int .u8) _ _ _ (((rd_T52 l2 x9_2).f0) % 256) [.int .u8 (((rd_T52 l2 x9_2).f0) % 256)] from rfl) (Reps.none _ _)))
                                                                intro v253 w31 ho32 hb hg_ hnew_
                                                                clear hg_ hnew_
                                                                (first | rw [← Ny252.out] at ho32 | (simp only [Int.reduceToNat] at ho32; rw [← Ny252.out] at ho32))
                                                                have n0_ := Aside0.mk (Kd.R_lower ho32 (below_size (by repeat (first | (with_reducible first | exact HB.out | apply below_alloc | apply pw_below_drewN | apply below_drew1) | exact HB.out))))
                                                                have n1_ := Aside0.mk (below_step (by repeat (first | (with_reducible first | exact HB.out | apply below_alloc | apply pw_below_drewN | apply below_drew1) | exact HB.out)) hb)
                                                                clear HB
                                                                have HO254 := n0_
                                                                have HB := n1_
                                                                clear n0_ n1_
                                                                clear hb ho32
                                                                refine hK.out _ _ ⟨((HB.out.cell (World.block_lt_of_cell? w _ hw251_0)).trans hw251_0), ((HB.out.cell (World.block_lt_of_cell? w _ hw251_1)).trans hw251_1), ((HB.out.cell (World.block_lt_of_cell? w _ hw255_0)).trans hw255_0), ((HB.out.cell (World.block_lt_of_cell? w _ hw255_1)).trans hw255_1), ((HB.out.cell (World.block_lt_of_cell? w _ hw257_0)).trans hw257_0), ((HB.out.cell (World.block_lt_of_cell? w _ hw257_1)).trans hw257_1), ((HB.out.cell (World.block_lt_of_cell? w _ hw258_0)).trans hw258_0), ((HB.out.cell (World.block_lt_of_cell? w _ hw258_1)).trans hw258_1)⟩ (fun hHeld => ?_)
                                                                clear hK K
                                                                refine norm_ (a' := ?_) ?_ ?_
                                                                rotate_left
                                                                · show Act.put _ (some 62) _ = _
                                                                  simp only [Act.put, List.setIfInBounds_toArray, List.set_cons_zero, List.set_cons_succ, i64_w, i32_w]
                                                                  rfl
                                                                exact norm_ (by first | (simp only [putAll, Act.put, List.setIfInBounds_toArray, List.set_cons_zero, List.set_cons_succ]; done) | (simp only [putAll, Act.put, List.setIfInBounds_toArray, List.set_cons_zero, List.set_cons_succ]; rfl)) (hJ7_16 (v253) _ ⟨hHeld, (by (with_reducible repeat (first | apply Kd.R_alloc | apply Kd.R_drewN | apply Kd.R_drew)); exact HO254.out), (by repeat (first | (with_reducible first | exact HB.out | apply below_alloc | apply pw_below_drewN | apply below_drew1) | exact HB.out))⟩)
                                                              · skip
                                                                refine goes_ Try.func21 (by kernel_rfl) rfl #[.string ((rd_T52 l2 x9_2).f1)] (by rfl) rfl rfl (by (try simp only [List.map_toArray, List.map_cons, List.map_nil]); first | done | rfl | (simp only [List.length_drop, List.length_take]; rfl)) ?_
                                                                with_reducible refine (dioramaref03_Sum.calls kj13 ((rd_T52 l2 x9_2).f1) t259 _ A24.out).mono ?_
                                                                rintro e w' ⟨rfl, ⟨nd, rfl⟩⟩
                                                                refine ⟨_, rfl, ?_⟩
                                                                refine hK.out _ _ ⟨((HB.out.cell (World.block_lt_of_cell? w _ hw251_0)).trans hw251_0), ((HB.out.cell (World.block_lt_of_cell? w _ hw251_1)).trans hw251_1), ((HB.out.cell (World.block_lt_of_cell? w _ hw255_0)).trans hw255_0), ((HB.out.cell (World.block_lt_of_cell? w _ hw255_1)).trans hw255_1), ((HB.out.cell (World.block_lt_of_cell? w _ hw257_0)).trans hw257_0), ((HB.out.cell (World.block_lt_of_cell? w _ hw257_1)).trans hw257_1), ((HB.out.cell (World.block_lt_of_cell? w _ hw258_0)).trans hw258_0), ((HB.out.cell (World.block_lt_of_cell? w _ hw258_1)).trans hw258_1)⟩ (fun hHeld => ?_)
                                                                clear hK K
                                                                refine norm_ (a' := ?_) ?_ ?_
                                                                rotate_left
                                                                · show Act.put _ (some 84) _ = _
                                                                  simp only [Act.put, List.setIfInBounds_toArray, List.set_cons_zero, List.set_cons_succ, i64_w, i32_w]
                                                                  rfl
                                                                exact norm_ (by first | (simp only [putAll, Act.put, List.setIfInBounds_toArray, List.set_cons_zero, List.set_cons_succ]; done) | (simp only [putAll, Act.put, List.setIfInBounds_toArray, List.set_cons_zero, List.set_cons_succ]; rfl)) (hJ16_29 () _ ⟨hHeld, (by repeat (first | (with_reducible first | exact HB.out | apply below_alloc | apply pw_below_drewN | apply below_drew1) | exact HB.out))⟩)
                                                          · skip
                                                            rintro v253 w31 ⟨hS_, h0_, h1_⟩
                                                            have n0_ : Aside0 (Kd.R (Kd.int .u8) 5 w31 w.heap.size (fun _ => True) v253 y252) := ⟨h0_⟩
                                                            have n1_ : Aside0 (Below w.heap.size w w31) := ⟨h1_⟩
                                                            clear HB
                                                            clear h0_ h1_
                                                            have HO254 := n0_
                                                            have HB := n1_
                                                            clear n0_ n1_
                                                            have hHeld : w31.cell? (ad250.add ((x9_2).toNat * 2)) = some (.int .i64 ((rd_T52 l2 x9_2).f0)) ∧ w31.cell? ⟨(ad250.add ((x9_2).toNat * 2)).block, (ad250.add ((x9_2).toNat * 2)).off + 1, none⟩ = some (.string ((rd_T52 l2 x9_2).f1)) ∧ w31.cell? (ad250.add ((x9_2).toNat * 2)) = some (.int .i64 ((rd_T52 l2 x9_2).f0)) ∧ w31.cell? ⟨(ad250.add ((x9_2).toNat * 2)).block, (ad250.add ((x9_2).toNat * 2)).off + 1, none⟩ = some (.string ((rd_T52 l2 x9_2).f1)) ∧ w31.cell? (ad250.add ((x9_2).toNat * 2)) = some (.int .i64 ((rd_T52 l2 x9_2).f0)) ∧ w31.cell? ⟨(ad250.add ((x9_2).toNat * 2)).block, (ad250.add ((x9_2).toNat * 2)).off + 1, none⟩ = some (.string ((rd_T52 l2 x9_2).f1)) ∧ w31.cell? (ad250.add ((x9_2).toNat * 2)) = some (.int .i64 ((rd_T52 l2 x9_2).f0)) ∧ w31.cell? ⟨(ad250.add ((x9_2).toNat * 2)).block, (ad250.add ((x9_2).toNat * 2)).off + 1, none⟩ = some (.string ((rd_T52 l2 x9_2).f1)) := hS_
                                                            refine norm_ (a' := ?_) ?_ ?_
                                                            rotate_left
                                                            · simp only [putAll, Act.put, List.setIfInBounds_toArray, List.set_cons_zero, List.set_cons_succ]
                                                              rfl
                                                            refine two_ (i := 8) (j := 16) (Ni := some 63) (Nj := some 71) #[true, true, true, true, true, true, true, true, true, true, true, true, true, true, true, true, false, false, true, true, true, true, true, false, true, true, true, true, true, false, false, false, false, false] #[true, true, true, true, true, true, true, true, false, true, true, true, true, true, true, true, true, false, true, true, true, true, true, false, true, true, true, true, true, false, false, false, false, false] rfl rfl rfl rfl (two_of HT_.out (by kernel_rfl)) (by decide) (by decide) (fun K hK => ?_) (fun K hK => ?_)
                                                            · skip
                                                              have hcv32 := own_string (P := Try.prog) Try.underlying72 Try.underlying5 Try.underlying9 (Kd.own_of_R HO254.out)
                                                              refine value_ (w1 := ?_) (v := ?_) (by rfl) rfl ?_ ?_
                                                              rotate_left 2
                                                              · go_simp
                                                                constructor
                                                                · rfl
                                                                · rfl
                                                              clear hcv32
                                                              refine hK.out _ _ ⟨((HB.out.cell (World.block_lt_of_cell? w _ hw251_0)).trans hw251_0), ((HB.out.cell (World.block_lt_of_cell? w _ hw251_1)).trans hw251_1), ((HB.out.cell (World.block_lt_of_cell? w _ hw255_0)).trans hw255_0), ((HB.out.cell (World.block_lt_of_cell? w _ hw255_1)).trans hw255_1), ((HB.out.cell (World.block_lt_of_cell? w _ hw257_0)).trans hw257_0), ((HB.out.cell (World.block_lt_of_cell? w _ hw257_1)).trans hw257_1), ((HB.out.cell (World.block_lt_of_cell? w _ hw258_0)).trans hw258_0), ((HB.out.cell (World.block_lt_of_cell? w _ hw258_1)).trans hw258_1)⟩ (fun hHeld => ?_)
                                                              clear hK K
                                                              refine norm_ (a' := ?_) ?_ ?_
                                                              rotate_left
                                                              · show Act.put _ (some 63) _ = _
                                                                simp only [Act.put, List.setIfInBounds_toArray, List.set_cons_zero, List.set_cons_succ, i64_w, i32_w]
                                                                rfl
                                                              exact norm_ (by first | (simp only [putAll, Act.put, List.setIfInBounds_toArray, List.set_cons_zero, List.set_cons_succ]; done) | (simp only [putAll, Act.put, List.setIfInBounds_toArray, List.set_cons_zero, List.set_cons_succ]; rfl)) (hJ7_8 (v253) _ ⟨hHeld, (by (with_reducible repeat (first | apply Kd.R_alloc | apply Kd.R_drewN | apply Kd.R_drew)); exact HO254.out), (by repeat (first | (with_reducible first | exact HB.out | apply below_alloc | apply pw_below_drewN | apply below_drew1) | exact HB.out))⟩)
                                                            · skip
                                                              refine goes_ Try.func48 (by kernel_rfl) rfl #[.int .u64 (IntKind.u64.wrap ((((rd_T52 l2 x9_2).f1).size : Int)))] (by rfl) rfl rfl (by (try simp only [List.map_toArray, List.map_cons, List.map_nil]); first | done | rfl | (simp only [List.length_drop, List.length_take]; rfl)) ?_
                                                              with_reducible refine (dioramaref01_Put.calls kj13 (IntKind.u64.wrap ((((rd_T52 l2 x9_2).f1).size : Int))) t256 _ A21.out).mono ?_
                                                              rintro e w32 ⟨rfl, hb⟩
                                                              refine ⟨_, rfl, ?_⟩
                                                              have n0_ := Aside0.mk (Kd.R_below (by (with_reducible repeat (first | apply Kd.R_alloc | apply Kd.R_drewN | apply Kd.R_drew)); exact HO254.out) hb)
                                                              have n1_ := Aside0.mk (below_step (by repeat (first | (with_reducible first | exact HB.out | apply below_alloc | apply pw_below_drewN | apply below_drew1) | exact HB.out)) hb)
                                                              clear HO254
                                                              clear HB
                                                              have HO254 := n0_
                                                              have HB := n1_
                                                              clear n0_ n1_
                                                              (try clear hb)
                                                              (try clear hb2)
                                                              (try clear hk)
                                                              (try clear hi)
                                                              refine hK.out _ _ ⟨((HB.out.cell (World.block_lt_of_cell? w _ hw251_0)).trans hw251_0), ((HB.out.cell (World.block_lt_of_cell? w _ hw251_1)).trans hw251_1), ((HB.out.cell (World.block_lt_of_cell? w _ hw255_0)).trans hw255_0), ((HB.out.cell (World.block_lt_of_cell? w _ hw255_1)).trans hw255_1), ((HB.out.cell (World.block_lt_of_cell? w _ hw257_0)).trans hw257_0), ((HB.out.cell (World.block_lt_of_cell? w _ hw257_1)).trans hw257_1), ((HB.out.cell (World.block_lt_of_cell? w _ hw258_0)).trans hw258_0), ((HB.out.cell (World.block_lt_of_cell? w _ hw258_1)).trans hw258_1)⟩ (fun hHeld => ?_)
                                                              clear hK K
                                                              refine norm_ (a' := ?_) ?_ ?_
                                                              rotate_left
                                                              · show Act.put _ (some 71) _ = _
                                                                simp only [Act.put, List.setIfInBounds_toArray, List.set_cons_zero, List.set_cons_succ, i64_w, i32_w]
                                                                rfl
                                                              exact norm_ (by first | (simp only [putAll, Act.put, List.setIfInBounds_toArray, List.set_cons_zero, List.set_cons_succ]; done) | (simp only [putAll, Act.put, List.setIfInBounds_toArray, List.set_cons_zero, List.set_cons_succ]; rfl)) (hJ7_16 (v253) _ ⟨hHeld, (by (with_reducible repeat (first | apply Kd.R_alloc | apply Kd.R_drewN | apply Kd.R_drew)); exact HO254.out), (by repeat (first | (with_reducible first | exact HB.out | apply below_alloc | apply pw_below_drewN | apply below_drew1) | exact HB.out))⟩)
                                                        · skip
                                                          rintro _ w30 ⟨hS_, h0_⟩
                                                          have n0_ : Aside0 (Below w.heap.size w w30) := ⟨h0_⟩
                                                          clear HB
                                                          clear h0_
                                                          have HB := n0_
                                                          clear n0_
                                                          have hHeld : w30.cell? (ad250.add ((x9_2).toNat * 2)) = some (.int .i64 ((rd_T52 l2 x9_2).f0)) ∧ w30.cell? ⟨(ad250.add ((x9_2).toNat * 2)).block, (ad250.add ((x9_2).toNat * 2)).off + 1, none⟩ = some (.string ((rd_T52 l2 x9_2).f1)) ∧ w30.cell? (ad250.add ((x9_2).toNat * 2)) = some (.int .i64 ((rd_T52 l2 x9_2).f0)) ∧ w30.cell? ⟨(ad250.add ((x9_2).toNat * 2)).block, (ad250.add ((x9_2).toNat * 2)).off + 1, none⟩ = some (.string ((rd_T52 l2 x9_2).f1)) ∧ w30.cell? (ad250.add ((x9_2).toNat * 2)) = some (.int .i64 ((rd_T52 l2 x9_2).f0)) ∧ w30.cell? ⟨(ad250.add ((x9_2).toNat * 2)).block, (ad250.add ((x9_2).toNat * 2)).off + 1, none⟩ = some (.string ((rd_T52 l2 x9_2).f1)) ∧ w30.cell? (ad250.add ((x9_2).toNat * 2)) = some (.int .i64 ((rd_T52 l2 x9_2).f0)) ∧ w30.cell? ⟨(ad250.add ((x9_2).toNat * 2)).block, (ad250.add ((x9_2).toNat * 2)).off + 1, none⟩ = some (.string ((rd_T52 l2 x9_2).f1)) := hS_
                                                          refine norm_ (a' := ?_) ?_ ?_
                                                          rotate_left
                                                          · simp only [putAll, Act.put, List.setIfInBounds_toArray, List.set_cons_zero, List.set_cons_succ]
                                                            rfl
                                                          refine two_ (i := 7) (j := 30) (Ni := some 62) (Nj := some 85) #[true, true, true, true, true, true, true, true, false, true, true, true, true, true, true, true, true, false, true, true, true, true, true, false, true, true, true, true, true, true, false, false, false, false] #[true, true, true, true, true, true, true, false, false, true, true, true, true, true, true, true, true, false, true, true, true, true, true, false, true, true, true, true, true, true, true, false, false, false] rfl rfl rfl rfl (two_of HT_.out (by kernel_rfl)) (by decide) (by decide) (fun K hK => ?_) (fun K hK => ?_)
                                                          · skip
                                                            refine Kd.R_lit_step (Kd.int .u8) _ 5 ?hg (N := 62) ?hd (xs := ([((rd_T52 l2 x9_2).f0) % 256] : List Int)) (inner := [.int .u8 (((rd_T52 l2 x9_2).f0) % 256)]) (ok := fun _ => True) (okp := fun _ => True) ?hr ?hp (fun _ hk => hk) trivial (Below.refl _ _) (Nat.le_refl _) (by simp) ?_; (case hd => rfl); (case hg => rfl); (case hr => first | (go_simp; done) | (go_simp; rfl)); (case hp => exact (Reps.one (show Kd.M (Kd.int .u8) _ _ _ (((rd_T52 l2 x9_2).f0) % 256) [.int .u8 (((rd_T52 l2 x9_2).f0) % 256)] from rfl) (Reps.none _ _)))
                                                            intro v253 w31 ho32 hb hg_ hnew_
                                                            clear hg_ hnew_
                                                            (first | rw [← Ny252.out] at ho32 | (simp only [Int.reduceToNat] at ho32; rw [← Ny252.out] at ho32))
                                                            have n0_ := Aside0.mk (Kd.R_lower ho32 (below_size (by repeat (first | (with_reducible first | exact HB.out | apply below_alloc | apply pw_below_drewN | apply below_drew1) | exact HB.out))))
                                                            have n1_ := Aside0.mk (below_step (by repeat (first | (with_reducible first | exact HB.out | apply below_alloc | apply pw_below_drewN | apply below_drew1) | exact HB.out)) hb)
                                                            clear HB
                                                            have HO254 := n0_
                                                            have HB := n1_
                                                            clear n0_ n1_
                                                            clear hb ho32
                                                            refine hK.out _ _ ⟨((HB.out.cell (World.block_lt_of_cell? w _ hw251_0)).trans hw251_0), ((HB.out.cell (World.block_lt_of_cell? w _ hw251_1)).trans hw251_1), ((HB.out.cell (World.block_lt_of_cell? w _ hw255_0)).trans hw255_0), ((HB.out.cell (World.block_lt_of_cell? w _ hw255_1)).trans hw255_1), ((HB.out.cell (World.block_lt_of_cell? w _ hw257_0)).trans hw257_0), ((HB.out.cell (World.block_lt_of_cell? w _ hw257_1)).trans hw257_1), ((HB.out.cell (World.block_lt_of_cell? w _ hw258_0)).trans hw258_0), ((HB.out.cell (World.block_lt_of_cell? w _ hw258_1)).trans hw258_1)⟩ (fun hHeld => ?_)
                                                            clear hK K
                                                            refine norm_ (a' := ?_) ?_ ?_
                                                            rotate_left
                                                            · show Act.put _ (some 62) _ = _
                                                              simp only [Act.put, List.setIfInBounds_toArray, List.set_cons_zero, List.set_cons_succ, i64_w, i32_w]
                                                              rfl
                                                            exact norm_ (by first | (simp only [putAll, Act.put, List.setIfInBounds_toArray, List.set_cons_zero, List.set_cons_succ]; done) | (simp only [putAll, Act.put, List.setIfInBounds_toArray, List.set_cons_zero, List.set_cons_succ]; rfl)) (hJ7_16_29 (v253) _ ⟨hHeld, (by (with_reducible repeat (first | apply Kd.R_alloc | apply Kd.R_drewN | apply Kd.R_drew)); exact HO254.out), (by repeat (first | (with_reducible first | exact HB.out | apply below_alloc | apply pw_below_drewN | apply below_drew1) | exact HB.out))⟩)
                                                          · skip
                                                            refine goes_ Try.func25 (by kernel_rfl) rfl #[.int .u32 t259] (by rfl) rfl rfl (by (try simp only [List.map_toArray, List.map_cons, List.map_nil]); first | done | rfl | (simp only [List.length_drop, List.length_take]; rfl)) ?_
                                                            with_reducible refine (dioramaref03_Put.calls kj13 t259 t260 _ A25.out).mono ?_
                                                            rintro e w31 ⟨rfl, hb⟩
                                                            refine ⟨_, rfl, ?_⟩
                                                            have n0_ := Aside0.mk (below_step (by repeat (first | (with_reducible first | exact HB.out | apply below_alloc | apply pw_below_drewN | apply below_drew1) | exact HB.out)) hb)
                                                            clear HB
                                                            have HB := n0_
                                                            clear n0_
                                                            (try clear hb)
                                                            (try clear hb2)
                                                            (try clear hk)
                                                            (try clear hi)
                                                            refine hK.out _ _ ⟨((HB.out.cell (World.block_lt_of_cell? w _ hw251_0)).trans hw251_0), ((HB.out.cell (World.block_lt_of_cell? w _ hw251_1)).trans hw251_1), ((HB.out.cell (World.block_lt_of_cell? w _ hw255_0)).trans hw255_0), ((HB.out.cell (World.block_lt_of_cell? w _ hw255_1)).trans hw255_1), ((HB.out.cell (World.block_lt_of_cell? w _ hw257_0)).trans hw257_0), ((HB.out.cell (World.block_lt_of_cell? w _ hw257_1)).trans hw257_1), ((HB.out.cell (World.block_lt_of_cell? w _ hw258_0)).trans hw258_0), ((HB.out.cell (World.block_lt_of_cell? w _ hw258_1)).trans hw258_1)⟩ (fun hHeld => ?_)
                                                            clear hK K
                                                            refine norm_ (a' := ?_) ?_ ?_
                                                            rotate_left
                                                            · show Act.put _ (some 85) _ = _
                                                              simp only [Act.put, List.setIfInBounds_toArray, List.set_cons_zero, List.set_cons_succ, i64_w, i32_w]
                                                              rfl
                                                            exact norm_ (by first | (simp only [putAll, Act.put, List.setIfInBounds_toArray, List.set_cons_zero, List.set_cons_succ]; done) | (simp only [putAll, Act.put, List.setIfInBounds_toArray, List.set_cons_zero, List.set_cons_succ]; rfl)) (hJ16_29_30 () _ ⟨hHeld, (by repeat (first | (with_reducible first | exact HB.out | apply below_alloc | apply pw_below_drewN | apply below_drew1) | exact HB.out))⟩)
                                                      · skip
                                                        rintro v253 w32 ⟨hS_, h0_, h1_⟩
                                                        have n0_ : Aside0 (Kd.R (Kd.int .u8) 5 w32 w.heap.size (fun _ => True) v253 y252) := ⟨h0_⟩
                                                        have n1_ : Aside0 (Below w.heap.size w w32) := ⟨h1_⟩
                                                        clear HB
                                                        clear h0_ h1_
                                                        have HO254 := n0_
                                                        have HB := n1_
                                                        clear n0_ n1_
                                                        have hHeld : w32.cell? (ad250.add ((x9_2).toNat * 2)) = some (.int .i64 ((rd_T52 l2 x9_2).f0)) ∧ w32.cell? ⟨(ad250.add ((x9_2).toNat * 2)).block, (ad250.add ((x9_2).toNat * 2)).off + 1, none⟩ = some (.string ((rd_T52 l2 x9_2).f1)) ∧ w32.cell? (ad250.add ((x9_2).toNat * 2)) = some (.int .i64 ((rd_T52 l2 x9_2).f0)) ∧ w32.cell? ⟨(ad250.add ((x9_2).toNat * 2)).block, (ad250.add ((x9_2).toNat * 2)).off + 1, none⟩ = some (.string ((rd_T52 l2 x9_2).f1)) ∧ w32.cell? (ad250.add ((x9_2).toNat * 2)) = some (.int .i64 ((rd_T52 l2 x9_2).f0)) ∧ w32.cell? ⟨(ad250.add ((x9_2).toNat * 2)).block, (ad250.add ((x9_2).toNat * 2)).off + 1, none⟩ = some (.string ((rd_T52 l2 x9_2).f1)) ∧ w32.cell? (ad250.add ((x9_2).toNat * 2)) = some (.int .i64 ((rd_T52 l2 x9_2).f0)) ∧ w32.cell? ⟨(ad250.add ((x9_2).toNat * 2)).block, (ad250.add ((x9_2).toNat * 2)).off + 1, none⟩ = some (.string ((rd_T52 l2 x9_2).f1)) := hS_
                                                        refine norm_ (a' := ?_) ?_ ?_
                                                        rotate_left
                                                        · simp only [putAll, Act.put, List.setIfInBounds_toArray, List.set_cons_zero, List.set_cons_succ]
                                                          rfl
                                                        refine two_ (i := 8) (j := 29) (Ni := some 63) (Nj := some 84) #[true, true, true, true, true, true, true, true, true, true, true, true, true, true, true, true, true, false, true, true, true, true, true, false, true, true, true, true, true, false, false, false, false, false] #[true, true, true, true, true, true, true, true, false, true, true, true, true, true, true, true, true, false, true, true, true, true, true, false, true, true, true, true, true, true, false, false, false, false] rfl rfl rfl rfl (two_of HT_.out (by kernel_rfl)) (by decide) (by decide) (fun K hK => ?_) (fun K hK => ?_)
                                                        · skip
                                                          have hcv33 := own_string (P := Try.prog) Try.underlying72 Try.underlying5 Try.underlying9 (Kd.own_of_R HO254.out)
                                                          refine value_ (w1 := ?_) (v := ?_) (by rfl) rfl ?_ ?_
                                                          rotate_left 2
                                                          · go_simp
                                                            constructor
                                                            · rfl
                                                            · rfl
                                                          clear hcv33
                                                          refine hK.out _ _ ⟨((HB.out.cell (World.block_lt_of_cell? w _ hw251_0)).trans hw251_0), ((HB.out.cell (World.block_lt_of_cell? w _ hw251_1)).trans hw251_1), ((HB.out.cell (World.block_lt_of_cell? w _ hw255_0)).trans hw255_0), ((HB.out.cell (World.block_lt_of_cell? w _ hw255_1)).trans hw255_1), ((HB.out.cell (World.block_lt_of_cell? w _ hw257_0)).trans hw257_0), ((HB.out.cell (World.block_lt_of_cell? w _ hw257_1)).trans hw257_1), ((HB.out.cell (World.block_lt_of_cell? w _ hw258_0)).trans hw258_0), ((HB.out.cell (World.block_lt_of_cell? w _ hw258_1)).trans hw258_1)⟩ (fun hHeld => ?_)
                                                          clear hK K
                                                          refine norm_ (a' := ?_) ?_ ?_
                                                          rotate_left
                                                          · show Act.put _ (some 63) _ = _
                                                            simp only [Act.put, List.setIfInBounds_toArray, List.set_cons_zero, List.set_cons_succ, i64_w, i32_w]
                                                            rfl
                                                          refine pure_ (i := 17) (N := some 72) (v := ?_) (a' := ?_) #[true, true, true, true, true, true, true, true, true, true, true, true, true, true, true, true, true, true, true, true, true, true, true, false, true, true, true, true, true, false, false, false, false, false] rfl rfl (any_of HT_.out (by kernel_rfl)) (fun _ _ _ h => h) (Or.inl ⟨by rfl, ?_⟩) ?_ ?_
                                                          rotate_left
                                                          · intro w'
                                                            go_simp
                                                            with_reducible rfl
                                                          rotate_left
                                                          · simp only [Act.put, List.setIfInBounds_toArray, List.set_cons_zero, List.set_cons_succ, i64_w, i32_w]
                                                            rfl
                                                          refine pure_ (i := 23) (N := some 78) (v := ?_) (a' := ?_) #[true, true, true, true, true, true, true, true, true, true, true, true, true, true, true, true, true, true, true, true, true, true, true, true, true, true, true, true, true, false, false, false, false, false] rfl rfl (any_of HT_.out (by kernel_rfl)) (fun _ _ _ h => h) (Or.inl ⟨by rfl, ?_⟩) ?_ ?_
                                                          rotate_left
                                                          · intro w'
                                                            go_simp
                                                            with_reducible rfl
                                                          rotate_left
                                                          · simp only [Act.put, List.setIfInBounds_toArray, List.set_cons_zero, List.set_cons_succ, i64_w, i32_w]
                                                            rfl
                                                          exact norm_ (by first | (simp only [putAll, Act.put, List.setIfInBounds_toArray, List.set_cons_zero, List.set_cons_succ]; done) | (simp only [putAll, Act.put, List.setIfInBounds_toArray, List.set_cons_zero, List.set_cons_succ]; rfl)) (hJ7_8_16 (v253) _ ⟨hHeld, (by (with_reducible repeat (first | apply Kd.R_alloc | apply Kd.R_drewN | apply Kd.R_drew)); exact HO254.out), (by repeat (first | (with_reducible first | exact HB.out | apply below_alloc | apply pw_below_drewN | apply below_drew1) | exact HB.out))⟩)
                                                        · skip
                                                          refine goes_ Try.func21 (by kernel_rfl) rfl #[.string ((rd_T52 l2 x9_2).f1)] (by rfl) rfl rfl (by (try simp only [List.map_toArray, List.map_cons, List.map_nil]); first | done | rfl | (simp only [List.length_drop, List.length_take]; rfl)) ?_
                                                          with_reducible refine (dioramaref03_Sum.calls kj13 ((rd_T52 l2 x9_2).f1) t259 _ A24.out).mono ?_
                                                          rintro e w' ⟨rfl, ⟨nd, rfl⟩⟩
                                                          refine ⟨_, rfl, ?_⟩
                                                          refine hK.out _ _ ⟨((HB.out.cell (World.block_lt_of_cell? w _ hw251_0)).trans hw251_0), ((HB.out.cell (World.block_lt_of_cell? w _ hw251_1)).trans hw251_1), ((HB.out.cell (World.block_lt_of_cell? w _ hw255_0)).trans hw255_0), ((HB.out.cell (World.block_lt_of_cell? w _ hw255_1)).trans hw255_1), ((HB.out.cell (World.block_lt_of_cell? w _ hw257_0)).trans hw257_0), ((HB.out.cell (World.block_lt_of_cell? w _ hw257_1)).trans hw257_1), ((HB.out.cell (World.block_lt_of_cell? w _ hw258_0)).trans hw258_0), ((HB.out.cell (World.block_lt_of_cell? w _ hw258_1)).trans hw258_1)⟩ (fun hHeld => ?_)
                                                          clear hK K
                                                          refine norm_ (a' := ?_) ?_ ?_
                                                          rotate_left
                                                          · show Act.put _ (some 84) _ = _
                                                            simp only [Act.put, List.setIfInBounds_toArray, List.set_cons_zero, List.set_cons_succ, i64_w, i32_w]
                                                            rfl
                                                          exact norm_ (by first | (simp only [putAll, Act.put, List.setIfInBounds_toArray, List.set_cons_zero, List.set_cons_succ]; done) | (simp only [putAll, Act.put, List.setIfInBounds_toArray, List.set_cons_zero, List.set_cons_succ]; rfl)) (hJ7_16_29 (v253) _ ⟨hHeld, (by (with_reducible repeat (first | apply Kd.R_alloc | apply Kd.R_drewN | apply Kd.R_drew)); exact HO254.out), (by repeat (first | (with_reducible first | exact HB.out | apply below_alloc | apply pw_below_drewN | apply below_drew1) | exact HB.out))⟩)
                                                    · skip
                                                      rintro v253 w32 ⟨hS_, h0_, h1_⟩
                                                      have n0_ : Aside0 (Kd.R (Kd.int .u8) 5 w32 w.heap.size (fun _ => True) v253 y252) := ⟨h0_⟩
                                                      have n1_ : Aside0 (Below w.heap.size w w32) := ⟨h1_⟩
                                                      clear HB
                                                      clear h0_ h1_
                                                      have HO254 := n0_
                                                      have HB := n1_
                                                      clear n0_ n1_
                                                      have hHeld : w32.cell? (ad250.add ((x9_2).toNat * 2)) = some (.int .i64 ((rd_T52 l2 x9_2).f0)) ∧ w32.cell? ⟨(ad250.add ((x9_2).toNat * 2)).block, (ad250.add ((x9_2).toNat * 2)).off + 1, none⟩ = some (.string ((rd_T52 l2 x9_2).f1)) ∧ w32.cell? (ad250.add ((x9_2).toNat * 2)) = some (.int .i64 ((rd_T52 l2 x9_2).f0)) ∧ w32.cell? ⟨(ad250.add ((x9_2).toNat * 2)).block, (ad250.add ((x9_2).toNat * 2)).off + 1, none⟩ = some (.string ((rd_T52 l2 x9_2).f1)) ∧ w32.cell? (ad250.add ((x9_2).toNat * 2)) = some (.int .i64 ((rd_T52 l2 x9_2).f0)) ∧ w32.cell? ⟨(ad250.add ((x9_2).toNat * 2)).block, (ad250.add ((x9_2).toNat * 2)).off + 1, none⟩ = some (.string ((rd_T52 l2 x9_2).f1)) ∧ w32.cell? (ad250.add ((x9_2).toNat * 2)) = some (.int .i64 ((rd_T52 l2 x9_2).f0)) ∧ w32.cell? ⟨(ad250.add ((x9_2).toNat * 2)).block, (ad250.add ((x9_2).toNat * 2)).off + 1, none⟩ = some (.string ((rd_T52 l2 x9_2).f1)) := hS_
                                                      refine norm_ (a' := ?_) ?_ ?_
                                                      rotate_left
                                                      · simp only [putAll, Act.put, List.setIfInBounds_toArray, List.set_cons_zero, List.set_cons_succ]
                                                        rfl
                                                      refine one_ (i := 16) (N := some 71) #[true, true, true, true, true, true, true, true, true, true, true, true, true, true, true, true, true, false, true, true, true, true, true, false, true, true, true, true, true, false, false, false, false, false] rfl rfl (one_of HT_.out (by kernel_rfl)) (by decide) (fun K hK => ?_)
                                                      refine goes_ Try.func48 (by kernel_rfl) rfl #[.int .u64 (IntKind.u64.wrap ((((rd_T52 l2 x9_2).f1).size : Int)))] (by rfl) rfl rfl (by (try simp only [List.map_toArray, List.map_cons, List.map_nil]); first | done | rfl | (simp only [List.length_drop, List.length_take]; rfl)) ?_
                                                      with_reducible refine (dioramaref01_Put.calls kj13 (IntKind.u64.wrap ((((rd_T52 l2 x9_2).f1).size : Int))) t256 _ A21.out).mono ?_
                                                      rintro e w33 ⟨rfl, hb⟩
                                                      refine ⟨_, rfl, ?_⟩
                                                      have n0_ := Aside0.mk (Kd.R_below (by (with_reducible repeat (first | apply Kd.R_alloc | apply Kd.R_drewN | apply Kd.R_drew)); exact HO254.out) hb)
                                                      have n1_ := Aside0.mk (below_step (by repeat (first | (with_reducible first | exact HB.out | apply below_alloc | apply pw_below_drewN | apply below_drew1) | exact HB.out)) hb)
                                                      clear HO254
                                                      clear HB
                                                      have HO254 := n0_
                                                      have HB := n1_
                                                      clear n0_ n1_
                                                      (try clear hb)
                                                      (try clear hb2)
                                                      (try clear hk)
                                                      (try clear hi)
                                                      refine hK.out _ _ ⟨((HB.out.cell (World.block_lt_of_cell? w _ hw251_0)).trans hw251_0), ((HB.out.cell (World.block_lt_of_cell? w _ hw251_1)).trans hw251_1), ((HB.out.cell (World.block_lt_of_cell? w _ hw255_0)).trans hw255_0), ((HB.out.cell (World.block_lt_of_cell? w _ hw255_1)).trans hw255_1), ((HB.out.cell (World.block_lt_of_cell? w _ hw257_0)).trans hw257_0), ((HB.out.cell (World.block_lt_of_cell? w _ hw257_1)).trans hw257_1), ((HB.out.cell (World.block_lt_of_cell? w _ hw258_0)).trans hw258_0), ((HB.out.cell (World.block_lt_of_cell? w _ hw258_1)).trans hw258_1)⟩ (fun hHeld => ?_)
                                                      clear hK K
                                                      refine norm_ (a' := ?_) ?_ ?_
                                                      rotate_left
                                                      · show Act.put _ (some 71) _ = _
                                                        simp only [Act.put, List.setIfInBounds_toArray, List.set_cons_zero, List.set_cons_succ, i64_w, i32_w]
                                                        rfl
                                                      refine pure_ (i := 17) (N := some 72) (v := ?_) (a' := ?_) #[true, true, true, true, true, true, true, true, true, true, true, true, true, true, true, true, true, true, true, true, true, true, true, false, true, true, true, true, true, false, false, false, false, false] rfl rfl (any_of HT_.out (by kernel_rfl)) (fun _ _ _ h => h) (Or.inl ⟨by rfl, ?_⟩) ?_ ?_
                                                      rotate_left
                                                      · intro w'
                                                        go_simp
                                                        with_reducible rfl
                                                      rotate_left
                                                      · simp only [Act.put, List.setIfInBounds_toArray, List.set_cons_zero, List.set_cons_succ, i64_w, i32_w]
                                                        rfl
                                                      refine pure_ (i := 23) (N := some 78) (v := ?_) (a' := ?_) #[true, true, true, true, true, true, true, true, true, true, true, true, true, true, true, true, true, true, true, true, true, true, true, true, true, true, true, true, true, false, false, false, false, false] rfl rfl (any_of HT_.out (by kernel_rfl)) (fun _ _ _ h => h) (Or.inl ⟨by rfl, ?_⟩) ?_ ?_
                                                      rotate_left
                                                      · intro w'
                                                        go_simp
                                                        with_reducible rfl
                                                      rotate_left
                                                      · simp only [Act.put, List.setIfInBounds_toArray, List.set_cons_zero, List.set_cons_succ, i64_w, i32_w]
                                                        rfl
                                                      exact norm_ (by first | (simp only [putAll, Act.put, List.setIfInBounds_toArray, List.set_cons_zero, List.set_cons_succ]; done) | (simp only [putAll, Act.put, List.setIfInBounds_toArray, List.set_cons_zero, List.set_cons_succ]; rfl)) (hJ7_8_16 (v253) _ ⟨hHeld, (by (with_reducible repeat (first | apply Kd.R_alloc | apply Kd.R_drewN | apply Kd.R_drew)); exact HO254.out), (by repeat (first | (with_reducible first | exact HB.out | apply below_alloc | apply pw_below_drewN | apply below_drew1) | exact HB.out))⟩)
                                                  · skip
                                                    rintro _ w31 ⟨hS_, h0_⟩
                                                    have n0_ : Aside0 (Below w.heap.size w w31) := ⟨h0_⟩
                                                    clear HB
                                                    clear h0_
                                                    have HB := n0_
                                                    clear n0_
                                                    have hHeld : w31.cell? (ad250.add ((x9_2).toNat * 2)) = some (.int .i64 ((rd_T52 l2 x9_2).f0)) ∧ w31.cell? ⟨(ad250.add ((x9_2).toNat * 2)).block, (ad250.add ((x9_2).toNat * 2)).off + 1, none⟩ = some (.string ((rd_T52 l2 x9_2).f1)) ∧ w31.cell? (ad250.add ((x9_2).toNat * 2)) = some (.int .i64 ((rd_T52 l2 x9_2).f0)) ∧ w31.cell? ⟨(ad250.add ((x9_2).toNat * 2)).block, (ad250.add ((x9_2).toNat * 2)).off + 1, none⟩ = some (.string ((rd_T52 l2 x9_2).f1)) ∧ w31.cell? (ad250.add ((x9_2).toNat * 2)) = some (.int .i64 ((rd_T52 l2 x9_2).f0)) ∧ w31.cell? ⟨(ad250.add ((x9_2).toNat * 2)).block, (ad250.add ((x9_2).toNat * 2)).off + 1, none⟩ = some (.string ((rd_T52 l2 x9_2).f1)) ∧ w31.cell? (ad250.add ((x9_2).toNat * 2)) = some (.int .i64 ((rd_T52 l2 x9_2).f0)) ∧ w31.cell? ⟨(ad250.add ((x9_2).toNat * 2)).block, (ad250.add ((x9_2).toNat * 2)).off + 1, none⟩ = some (.string ((rd_T52 l2 x9_2).f1)) := hS_
                                                    refine norm_ (a' := ?_) ?_ ?_
                                                    rotate_left
                                                    · simp only [putAll, Act.put, List.setIfInBounds_toArray, List.set_cons_zero, List.set_cons_succ]
                                                      rfl
                                                    refine one_ (i := 7) (N := some 62) #[true, true, true, true, true, true, true, true, false, true, true, true, true, true, true, true, true, false, true, true, true, true, true, false, true, true, true, true, true, true, true, false, false, false] rfl rfl (one_of HT_.out (by kernel_rfl)) (by decide) (fun K hK => ?_)
                                                    refine Kd.R_lit_step (Kd.int .u8) _ 5 ?hg (N := 62) ?hd (xs := ([((rd_T52 l2 x9_2).f0) % 256] : List Int)) (inner := [.int .u8 (((rd_T52 l2 x9_2).f0) % 256)]) (ok := fun _ => True) (okp := fun _ => True) ?hr ?hp (fun _ hk => hk) trivial (Below.refl _ _) (Nat.le_refl _) (by simp) ?_; (case hd => rfl); (case hg => rfl); (case hr => first | (go_simp; done) | (go_simp; rfl)); (case hp => exact (Reps.one (show Kd.M (Kd.int .u8) _ _ _ (((rd_T52 l2 x9_2).f0) % 256) [.int .u8 (((rd_T52 l2 x9_2).f0) % 256)] from rfl) (Reps.none _ _)))
                                                    intro v253 w32 ho33 hb hg_ hnew_
                                                    clear hg_ hnew_
                                                    (first | rw [← Ny252.out] at ho33 | (simp only [Int.reduceToNat] at ho33; rw [← Ny252.out] at ho33))
                                                    have n0_ := Aside0.mk (Kd.R_lower ho33 (below_size (by repeat (first | (with_reducible first | exact HB.out | apply below_alloc | apply pw_below_drewN | apply below_drew1) | exact HB.out))))
                                                    have n1_ := Aside0.mk (below_step (by repeat (first | (with_reducible first | exact HB.out | apply below_alloc | apply pw_below_drewN | apply below_drew1) | exact HB.out)) hb)
                                                    clear HB
                                                    have HO254 := n0_
                                                    have HB := n1_
                                                    clear n0_ n1_
                                                    clear hb ho33
                                                    refine hK.out _ _ ⟨((HB.out.cell (World.block_lt_of_cell? w _ hw251_0)).trans hw251_0), ((HB.out.cell (World.block_lt_of_cell? w _ hw251_1)).trans hw251_1), ((HB.out.cell (World.block_lt_of_cell? w _ hw255_0)).trans hw255_0), ((HB.out.cell (World.block_lt_of_cell? w _ hw255_1)).trans hw255_1), ((HB.out.cell (World.block_lt_of_cell? w _ hw257_0)).trans hw257_0), ((HB.out.cell (World.block_lt_of_cell? w _ hw257_1)).trans hw257_1), ((HB.out.cell (World.block_lt_of_cell? w _ hw258_0)).trans hw258_0), ((HB.out.cell (World.block_lt_of_cell? w _ hw258_1)).trans hw258_1)⟩ (fun hHeld => ?_)
                                                    clear hK K
                                                    refine norm_ (a' := ?_) ?_ ?_
                                                    rotate_left
                                                    · show Act.put _ (some 62) _ = _
                                                      simp only [Act.put, List.setIfInBounds_toArray, List.set_cons_zero, List.set_cons_succ, i64_w, i32_w]
                                                      rfl
                                                    exact norm_ (by first | (simp only [putAll, Act.put, List.setIfInBounds_toArray, List.set_cons_zero, List.set_cons_succ]; done) | (simp only [putAll, Act.put, List.setIfInBounds_toArray, List.set_cons_zero, List.set_cons_succ]; rfl)) (hJ7_16_29_30 (v253) _ ⟨hHeld, (by (with_reducible repeat (first | apply Kd.R_alloc | apply Kd.R_drewN | apply Kd.R_drew)); exact HO254.out), (by repeat (first | (with_reducible first | exact HB.out | apply below_alloc | apply pw_below_drewN | apply below_drew1) | exact HB.out))⟩)
                                                · skip
                                                  rintro v253 w32 ⟨hS_, h0_, h1_⟩
                                                  have n0_ : Aside0 (Kd.R (Kd.int .u8) 5 w32 w.heap.size (fun _ => True) v253 y252) := ⟨h0_⟩
                                                  have n1_ : Aside0 (Below w.heap.size w w32) := ⟨h1_⟩
                                                  clear HB
                                                  clear h0_ h1_
                                                  have HO254 := n0_
                                                  have HB := n1_
                                                  clear n0_ n1_
                                                  have hHeld : w32.cell? (ad250.add ((x9_2).toNat * 2)) = some (.int .i64 ((rd_T52 l2 x9_2).f0)) ∧ w32.cell? ⟨(ad250.add ((x9_2).toNat * 2)).block, (ad250.add ((x9_2).toNat * 2)).off + 1, none⟩ = some (.string ((rd_T52 l2 x9_2).f1)) ∧ w32.cell? (ad250.add ((x9_2).toNat * 2)) = some (.int .i64 ((rd_T52 l2 x9_2).f0)) ∧ w32.cell? ⟨(ad250.add ((x9_2).toNat * 2)).block, (ad250.add ((x9_2).toNat * 2)).off + 1, none⟩ = some (.string ((rd_T52 l2 x9_2).f1)) ∧ w32.cell? (ad250.add ((x9_2).toNat * 2)) = some (.int .i64 ((rd_T52 l2 x9_2).f0)) ∧ w32.cell? ⟨(ad250.add ((x9_2).toNat * 2)).block, (ad250.add ((x9_2).toNat * 2)).off + 1, none⟩ = some (.string ((rd_T52 l2 x9_2).f1)) ∧ w32.cell? (ad250.add ((x9_2).toNat * 2)) = some (.int .i64 ((rd_T52 l2 x9_2).f0)) ∧ w32.cell? ⟨(ad250.add ((x9_2).toNat * 2)).block, (ad250.add ((x9_2).toNat * 2)).off + 1, none⟩ = some (.string ((rd_T52 l2 x9_2).f1)) := hS_
                                                  refine norm_ (a' := ?_) ?_ ?_
                                                  rotate_left
                                                  · simp only [putAll, Act.put, List.setIfInBounds_toArray, List.set_cons_zero, List.set_cons_succ]
                                                    rfl
                                                  refine two_ (i := 8) (j := 30) (Ni := some 63) (Nj := some 85) #[true, true, true, true, true, true, true, true, true, true, true, true, true, true, true, true, true, false, true, true, true, true, true, false, true, true, true, true, true, true, false, false, false, false] #[true, true, true, true, true, true, true, true, false, true, true, true, true, true, true, true, true, false, true, true, true, true, true, false, true, true, true, true, true, true, true, false, false, false] rfl rfl rfl rfl (two_of HT_.out (by kernel_rfl)) (by decide) (by decide) (fun K hK => ?_) (fun K hK => ?_)
                                                  · skip
                                                    have hcv33 := own_string (P := Try.prog) Try.underlying72 Try.underlying5 Try.underlying9 (Kd.own_of_R HO254.out)
                                                    refine value_ (w1 := ?_) (v := ?_) (by rfl) rfl ?_ ?_
                                                    rotate_left 2
                                                    · go_simp
                                                      constructor
                                                      · rfl
                                                      · rfl
                                                    clear hcv33
                                                    refine hK.out _ _ ⟨((HB.out.cell (World.block_lt_of_cell? w _ hw251_0)).trans hw251_0), ((HB.out.cell (World.block_lt_of_cell? w _ hw251_1)).trans hw251_1), ((HB.out.cell (World.block_lt_of_cell? w _ hw255_0)).trans hw255_0), ((HB.out.cell (World.block_lt_of_cell? w _ hw255_1)).trans hw255_1), ((HB.out.cell (World.block_lt_of_cell? w _ hw257_0)).trans hw257_0), ((HB.out.cell (World.block_lt_of_cell? w _ hw257_1)).trans hw257_1), ((HB.out.cell (World.block_lt_of_cell? w _ hw258_0)).trans hw258_0), ((HB.out.cell (World.block_lt_of_cell? w _ hw258_1)).trans hw258_1)⟩ (fun hHeld => ?_)
                                                    clear hK K
                                                    refine norm_ (a' := ?_) ?_ ?_
                                                    rotate_left
                                                    · show Act.put _ (some 63) _ = _
                                                      simp only [Act.put, List.setIfInBounds_toArray, List.set_cons_zero, List.set_cons_succ, i64_w, i32_w]
                                                      rfl
                                                    refine pure_ (i := 17) (N := some 72) (v := ?_) (a' := ?_) #[true, true, true, true, true, true, true, true, true, true, true, true, true, true, true, true, true, true, true, true, true, true, true, false, true, true, true, true, true, true, false, false, false, false] rfl rfl (any_of HT_.out (by kernel_rfl)) (fun _ _ _ h => h) (Or.inl ⟨by rfl, ?_⟩) ?_ ?_
                                                    rotate_left
                                                    · intro w'
                                                      go_simp
                                                      with_reducible rfl
                                                    rotate_left
                                                    · simp only [Act.put, List.setIfInBounds_toArray, List.set_cons_zero, List.set_cons_succ, i64_w, i32_w]
                                                      rfl
                                                    refine pure_ (i := 23) (N := some 78) (v := ?_) (a' := ?_) #[true, true, true, true, true, true, true, true, true, true, true, true, true, true, true, true, true, true, true, true, true, true, true, true, true, true, true, true, true, true, false, false, false, false] rfl rfl (any_of HT_.out (by kernel_rfl)) (fun _ _ _ h => h) (Or.inl ⟨by rfl, ?_⟩) ?_ ?_
                                                    rotate_left
                                                    · intro w'
                                                      go_simp
                                                      with_reducible rfl
                                                    rotate_left
                                                    · simp only [Act.put, List.setIfInBounds_toArray, List.set_cons_zero, List.set_cons_succ, i64_w, i32_w]
                                                      rfl
                                                    exact norm_ (by first | (simp only [putAll, Act.put, List.setIfInBounds_toArray, List.set_cons_zero, List.set_cons_succ]; done) | (simp only [putAll, Act.put, List.setIfInBounds_toArray, List.set_cons_zero, List.set_cons_succ]; rfl)) (hJ7_8_16_29 (v253) _ ⟨hHeld, (by (with_reducible repeat (first | apply Kd.R_alloc | apply Kd.R_drewN | apply Kd.R_drew)); exact HO254.out), (by repeat (first | (with_reducible first | exact HB.out | apply below_alloc | apply pw_below_drewN | apply below_drew1) | exact HB.out))⟩)
                                                  · skip
                                                    refine goes_ Try.func25 (by kernel_rfl) rfl #[.int .u32 t259] (by rfl) rfl rfl (by (try simp only [List.map_toArray, List.map_cons, List.map_nil]); first | done | rfl | (simp only [List.length_drop, List.length_take]; rfl)) ?_
                                                    with_reducible refine (dioramaref03_Put.calls kj13 t259 t260 _ A25.out).mono ?_
                                                    rintro e w33 ⟨rfl, hb⟩
                                                    refine ⟨_, rfl, ?_⟩
                                                    have n0_ := Aside0.mk (Kd.R_below (by (with_reducible repeat (first | apply Kd.R_alloc | apply Kd.R_drewN | apply Kd.R_drew)); exact HO254.out) hb)
                                                    have n1_ := Aside0.mk (below_step (by repeat (first | (with_reducible first | exact HB.out | apply below_alloc | apply pw_below_drewN | apply below_drew1) | exact HB.out)) hb)
                                                    clear HO254
                                                    clear HB
                                                    have HO254 := n0_
                                                    have HB := n1_
                                                    clear n0_ n1_
                                                    (try clear hb)
                                                    (try clear hb2)
                                                    (try clear hk)
                                                    (try clear hi)
                                                    refine hK.out _ _ ⟨((HB.out.cell (World.block_lt_of_cell? w _ hw251_0)).trans hw251_0), ((HB.out.cell (World.block_lt_of_cell? w _ hw251_1)).trans hw251_1), ((HB.out.cell (World.block_lt_of_cell? w _ hw255_0)).trans hw255_0), ((HB.out.cell (World.block_lt_of_cell? w _ hw255_1)).trans hw255_1), ((HB.out.cell (World.block_lt_of_cell? w _ hw257_0)).trans hw257_0), ((HB.out.cell (World.block_lt_of_cell? w _ hw257_1)).trans hw257_1), ((HB.out.cell (World.block_lt_of_cell? w _ hw258_0)).trans hw258_0), ((HB.out.cell (World.block_lt_of_cell? w _ hw258_1)).trans hw258_1)⟩ (fun hHeld => ?_)
                                                    clear hK K
                                                    refine norm_ (a' := ?_) ?_ ?_
                                                    rotate_left
                                                    · show Act.put _ (some 85) _ = _
                                                      simp only [Act.put, List.setIfInBounds_toArray, List.set_cons_zero, List.set_cons_succ, i64_w, i32_w]
                                                      rfl
                                                    exact norm_ (by first | (simp only [putAll, Act.put, List.setIfInBounds_toArray, List.set_cons_zero, List.set_cons_succ]; done) | (simp only [putAll, Act.put, List.setIfInBounds_toArray, List.set_cons_zero, List.set_cons_succ]; rfl)) (hJ7_16_29_30 (v253) _ ⟨hHeld, (by (with_reducible repeat (first | apply Kd.R_alloc | apply Kd.R_drewN | apply Kd.R_drew)); exact HO254.out), (by repeat (first | (with_reducible first | exact HB.out | apply below_alloc | apply pw_below_drewN | apply below_drew1) | exact HB.out))⟩)
                                              · skip
                                                rintro v253 w33 ⟨hS_, h0_, h1_⟩
                                                have n0_ : Aside0 (Kd.R (Kd.int .u8) 5 w33 w.heap.size (fun _ => True) v253 y252) := ⟨h0_⟩
                                                have n1_ : Aside0 (Below w.heap.size w w33) := ⟨h1_⟩
                                                clear HB
                                                clear h0_ h1_
                                                have HO254 := n0_
                                                have HB := n1_
                                                clear n0_ n1_
                                                have hHeld : w33.cell? (ad250.add ((x9_2).toNat * 2)) = some (.int .i64 ((rd_T52 l2 x9_2).f0)) ∧ w33.cell? ⟨(ad250.add ((x9_2).toNat * 2)).block, (ad250.add ((x9_2).toNat * 2)).off + 1, none⟩ = some (.string ((rd_T52 l2 x9_2).f1)) ∧ w33.cell? (ad250.add ((x9_2).toNat * 2)) = some (.int .i64 ((rd_T52 l2 x9_2).f0)) ∧ w33.cell? ⟨(ad250.add ((x9_2).toNat * 2)).block, (ad250.add ((x9_2).toNat * 2)).off + 1, none⟩ = some (.string ((rd_T52 l2 x9_2).f1)) ∧ w33.cell? (ad250.add ((x9_2).toNat * 2)) = some (.int .i64 ((rd_T52 l2 x9_2).f0)) ∧ w33.cell? ⟨(ad250.add ((x9_2).toNat * 2)).block, (ad250.add ((x9_2).toNat * 2)).off + 1, none⟩ = some (.string ((rd_T52 l2 x9_2).f1)) ∧ w33.cell? (ad250.add ((x9_2).toNat * 2)) = some (.int .i64 ((rd_T52 l2 x9_2).f0)) ∧ w33.cell? ⟨(ad250.add ((x9_2).toNat * 2)).block, (ad250.add ((x9_2).toNat * 2)).off + 1, none⟩ = some (.string ((rd_T52 l2 x9_2).f1)) := hS_
                                                refine norm_ (a' := ?_) ?_ ?_
                                                rotate_left
                                                · simp only [putAll, Act.put, List.setIfInBounds_toArray, List.set_cons_zero, List.set_cons_succ]
                                                  rfl
                                                refine one_ (i := 29) (N := some 84) #[true, true, true, true, true, true, true, true, true, true, true, true, true, true, true, true, true, true, true, true, true, true, true, true, true, true, true, true, true, true, false, false, false, false] rfl rfl (one_of HT_.out (by kernel_rfl)) (by decide) (fun K hK => ?_)
                                                refine goes_ Try.func21 (by kernel_rfl) rfl #[.string ((rd_T52 l2 x9_2).f1)] (by rfl) rfl rfl (by (try simp only [List.map_toArray, List.map_cons, List.map_nil]); first | done | rfl | (simp only [List.length_drop, List.length_take]; rfl)) ?_
                                                with_reducible refine (dioramaref03_Sum.calls kj13 ((rd_T52 l2 x9_2).f1) t259 _ A24.out).mono ?_
                                                rintro e w' ⟨rfl, ⟨nd, rfl⟩⟩
                                                refine ⟨_, rfl, ?_⟩
                                                refine hK.out _ _ ⟨((HB.out.cell (World.block_lt_of_cell? w _ hw251_0)).trans hw251_0), ((HB.out.cell (World.block_lt_of_cell? w _ hw251_1)).trans hw251_1), ((HB.out.cell (World.block_lt_of_cell? w _ hw255_0)).trans hw255_0), ((HB.out.cell (World.block_lt_of_cell? w _ hw255_1)).trans hw255_1), ((HB.out.cell (World.block_lt_of_cell? w _ hw257_0)).trans hw257_0), ((HB.out.cell (World.block_lt_of_cell? w _ hw257_1)).trans hw257_1), ((HB.out.cell (World.block_lt_of_cell? w _ hw258_0)).trans hw258_0), ((HB.out.cell (World.block_lt_of_cell? w _ hw258_1)).trans hw258_1)⟩ (fun hHeld => ?_)
                                                clear hK K
                                                refine norm_ (a' := ?_) ?_ ?_
                                                rotate_left
                                                · show Act.put _ (some 84) _ = _
                                                  simp only [Act.put, List.setIfInBounds_toArray, List.set_cons_zero, List.set_cons_succ, i64_w, i32_w]
                                                  rfl
                                                exact norm_ (by first | (simp only [putAll, Act.put, List.setIfInBounds_toArray, List.set_cons_zero, List.set_cons_succ]; done) | (simp only [putAll, Act.put, List.setIfInBounds_toArray, List.set_cons_zero, List.set_cons_succ]; rfl)) (hJ7_8_16_29 (v253) _ ⟨hHeld, (by (with_reducible repeat (first | apply Kd.R_alloc | apply Kd.R_drewN | apply Kd.R_drew)); exact HO254.out), (by repeat (first | (with_reducible first | exact HB.out | apply below_alloc | apply pw_below_drewN | apply below_drew1) | exact HB.out))⟩)
                                            · skip
                                              rintro v253 w33 ⟨hS_, h0_, h1_⟩
                                              have n0_ : Aside0 (Kd.R (Kd.int .u8) 5 w33 w.heap.size (fun _ => True) v253 y252) := ⟨h0_⟩
                                              have n1_ : Aside0 (Below w.heap.size w w33) := ⟨h1_⟩
                                              clear HB
                                              clear h0_ h1_
                                              have HO254 := n0_
                                              have HB := n1_
                                              clear n0_ n1_
                                              have hHeld : w33.cell? (ad250.add ((x9_2).toNat * 2)) = some (.int .i64 ((rd_T52 l2 x9_2).f0)) ∧ w33.cell? ⟨(ad250.add ((x9_2).toNat * 2)).block, (ad250.add ((x9_2).toNat * 2)).off + 1, none⟩ = some (.string ((rd_T52 l2 x9_2).f1)) ∧ w33.cell? (ad250.add ((x9_2).toNat * 2)) = some (.int .i64 ((rd_T52 l2 x9_2).f0)) ∧ w33.cell? ⟨(ad250.add ((x9_2).toNat * 2)).block, (ad250.add ((x9_2).toNat * 2)).off + 1, none⟩ = some (.string ((rd_T52 l2 x9_2).f1)) ∧ w33.cell? (ad250.add ((x9_2).toNat * 2)) = some (.int .i64 ((rd_T52 l2 x9_2).f0)) ∧ w33.cell? ⟨(ad250.add ((x9_2).toNat * 2)).block, (ad250.add ((x9_2).toNat * 2)).off + 1, none⟩ = some (.string ((rd_T52 l2 x9_2).f1)) ∧ w33.cell? (ad250.add ((x9_2).toNat * 2)) = some (.int .i64 ((rd_T52 l2 x9_2).f0)) ∧ w33.cell? ⟨(ad250.add ((x9_2).toNat * 2)).block, (ad250.add ((x9_2).toNat * 2)).off + 1, none⟩ = some (.string ((rd_T52 l2 x9_2).f1)) := hS_
                                              refine norm_ (a' := ?_) ?_ ?_
                                              rotate_left
                                              · simp only [putAll, Act.put, List.setIfInBounds_toArray, List.set_cons_zero, List.set_cons_succ]
                                                rfl
                                              refine one_ (i := 8) (N := some 63) #[true, true, true, true, true, true, true, true, true, true, true, true, true, true, true, true, true, false, true, true, true, true, true, false, true, true, true, true, true, true, true, false, false, false] rfl rfl (one_of HT_.out (by kernel_rfl)) (by decide) (fun K hK => ?_)
                                              have hcv34 := own_string (P := Try.prog) Try.underlying72 Try.underlying5 Try.underlying9 (Kd.own_of_R HO254.out)
                                              refine value_ (w1 := ?_) (v := ?_) (by rfl) rfl ?_ ?_
                                              rotate_left 2
                                              · go_simp
                                                constructor
                                                · rfl
                                                · rfl
                                              clear hcv34
                                              refine hK.out _ _ ⟨((HB.out.cell (World.block_lt_of_cell? w _ hw251_0)).trans hw251_0), ((HB.out.cell (World.block_lt_of_cell? w _ hw251_1)).trans hw251_1), ((HB.out.cell (World.block_lt_of_cell? w _ hw255_0)).trans hw255_0), ((HB.out.cell (World.block_lt_of_cell? w _ hw255_1)).trans hw255_1), ((HB.out.cell (World.block_lt_of_cell? w _ hw257_0)).trans hw257_0), ((HB.out.cell (World.block_lt_of_cell? w _ hw257_1)).trans hw257_1), ((HB.out.cell (World.block_lt_of_cell? w _ hw258_0)).trans hw258_0), ((HB.out.cell (World.block_lt_of_cell? w _ hw258_1)).trans hw258_1)⟩ (fun hHeld => ?_)
                                              clear hK K
                                              refine norm_ (a' := ?_) ?_ ?_
                                              rotate_left
                                              · show Act.put _ (some 63) _ = _
                                                simp only [Act.put, List.setIfInBounds_toArray, List.set_cons_zero, List.set_cons_succ, i64_w, i32_w]
                                                rfl
                                              refine pure_ (i := 17) (N := some 72) (v := ?_) (a' := ?_) #[true, true, true, true, true, true, true, true, true, true, true, true, true, true, true, true, true, true, true, true, true, true, true, false, true, true, true, true, true, true, true, false, false, false] rfl rfl (any_of HT_.out (by kernel_rfl)) (fun _ _ _ h => h) (Or.inl ⟨by rfl, ?_⟩) ?_ ?_
                                              rotate_left
                                              · intro w'
                                                go_simp
                                                with_reducible rfl
                                              rotate_left
                                              · simp only [Act.put, List.setIfInBounds_toArray, List.set_cons_zero, List.set_cons_succ, i64_w, i32_w]
                                                rfl
                                              refine pure_ (i := 23) (N := some 78) (v := ?_) (a' := ?_) #[true, true, true, true, true, true, true, true, true, true, true, true, true, true, true, true, true, true, true, true, true, true, true, true, true, true, true, true, true, true, true, false, false, false] rfl rfl (any_of HT_.out (by kernel_rfl)) (fun _ _ _ h => h) (Or.inl ⟨by rfl, ?_⟩) ?_ ?_
                                              rotate_left
                                              · intro w'
                                                go_simp
                                                with_reducible rfl
                                              rotate_left
                                              · simp only [Act.put, List.setIfInBounds_toArray, List.set_cons_zero, List.set_cons_succ, i64_w, i32_w]
                                                rfl
                                              exact norm_ (by first | (simp only [putAll, Act.put, List.setIfInBounds_toArray, List.set_cons_zero, List.set_cons_succ]; done) | (simp only [putAll, Act.put, List.setIfInBounds_toArray, List.set_cons_zero, List.set_cons_succ]; rfl)) (hJ7_8_16_29_30 (v253) _ ⟨hHeld, (by (with_reducible repeat (first | apply Kd.R_alloc | apply Kd.R_drewN | apply Kd.R_drew)); exact HO254.out), (by repeat (first | (with_reducible first | exact HB.out | apply below_alloc | apply pw_below_drewN | apply below_drew1) | exact HB.out))⟩)
                                          · skip
                                            rintro v253 w33 ⟨hS_, h0_, h1_⟩
                                            have n0_ : Aside0 (Kd.R (Kd.int .u8) 5 w33 w.heap.size (fun _ => True) v253 y252) := ⟨h0_⟩
                                            have n1_ : Aside0 (Below w.heap.size w w33) := ⟨h1_⟩
                                            clear HB
                                            clear h0_ h1_
                                            have HO254 := n0_
                                            have HB := n1_
                                            clear n0_ n1_
                                            have hHeld : w33.cell? (ad250.add ((x9_2).toNat * 2)) = some (.int .i64 ((rd_T52 l2 x9_2).f0)) ∧ w33.cell? ⟨(ad250.add ((x9_2).toNat * 2)).block, (ad250.add ((x9_2).toNat * 2)).off + 1, none⟩ = some (.string ((rd_T52 l2 x9_2).f1)) ∧ w33.cell? (ad250.add ((x9_2).toNat * 2)) = some (.int .i64 ((rd_T52 l2 x9_2).f0)) ∧ w33.cell? ⟨(ad250.add ((x9_2).toNat * 2)).block, (ad250.add ((x9_2).toNat * 2)).off + 1, none⟩ = some (.string ((rd_T52 l2 x9_2).f1)) ∧ w33.cell? (ad250.add ((x9_2).toNat * 2)) = some (.int .i64 ((rd_T52 l2 x9_2).f0)) ∧ w33.cell? ⟨(ad250.add ((x9_2).toNat * 2)).block, (ad250.add ((x9_2).toNat * 2)).off + 1, none⟩ = some (.string ((rd_T52 l2 x9_2).f1)) ∧ w33.cell? (ad250.add ((x9_2).toNat * 2)) = some (.int .i64 ((rd_T52 l2 x9_2).f0)) ∧ w33.cell? ⟨(ad250.add ((x9_2).toNat * 2)).block, (ad250.add ((x9_2).toNat * 2)).off + 1, none⟩ = some (.string ((rd_T52 l2 x9_2).f1)) := hS_
                                            refine norm_ (a' := ?_) ?_ ?_
                                            rotate_left
                                            · simp only [putAll, Act.put, List.setIfInBounds_toArray, List.set_cons_zero, List.set_cons_succ]
                                              rfl
                                            refine one_ (i := 30) (N := some 85) #[true, true, true, true, true, true, true, true, true, true, true, true, true, true, true, true, true, true, true, true, true, true, true, true, true, true, true, true, true, true, true, false, false, false] rfl rfl (one_of HT_.out (by kernel_rfl)) (by decide) (fun K hK => ?_)
                                            refine goes_ Try.func25 (by kernel_rfl) rfl #[.int .u32 t259] (by rfl) rfl rfl (by (try simp only [List.map_toArray, List.map_cons, List.map_nil]); first | done | rfl | (simp only [List.length_drop, List.length_take]; rfl)) ?_
                                            with_reducible refine (dioramaref03_Put.calls kj13 t259 t260 _ A25.out).mono ?_
                                            rintro e w34 ⟨rfl, hb⟩
                                            refine ⟨_, rfl, ?_⟩
                                            have n0_ := Aside0.mk (Kd.R_below (by (with_reducible repeat (first | apply Kd.R_alloc | apply Kd.R_drewN | apply Kd.R_drew)); exact HO254.out) hb)
                                            have n1_ := Aside0.mk (below_step (by repeat (first | (with_reducible first | exact HB.out | apply below_alloc | apply pw_below_drewN | apply below_drew1) | exact HB.out)) hb)
                                            clear HO254
                                            clear HB
                                            have HO254 := n0_
                                            have HB := n1_
                                            clear n0_ n1_
                                            (try clear hb)
                                            (try clear hb2)
                                            (try clear hk)
                                            (try clear hi)
                                            refine hK.out _ _ ⟨((HB.out.cell (World.block_lt_of_cell? w _ hw251_0)).trans hw251_0), ((HB.out.cell (World.block_lt_of_cell? w _ hw251_1)).trans hw251_1), ((HB.out.cell (World.block_lt_of_cell? w _ hw255_0)).trans hw255_0), ((HB.out.cell (World.block_lt_of_cell? w _ hw255_1)).trans hw255_1), ((HB.out.cell (World.block_lt_of_cell? w _ hw257_0)).trans hw257_0), ((HB.out.cell (World.block_lt_of_cell? w _ hw257_1)).trans hw257_1), ((HB.out.cell (World.block_lt_of_cell? w _ hw258_0)).trans hw258_0), ((HB.out.cell (World.block_lt_of_cell? w _ hw258_1)).trans hw258_1)⟩ (fun hHeld => ?_)
                                            clear hK K
                                            refine norm_ (a' := ?_) ?_ ?_
                                            rotate_left
                                            · show Act.put _ (some 85) _ = _
                                              simp only [Act.put, List.setIfInBounds_toArray, List.set_cons_zero, List.set_cons_succ, i64_w, i32_w]
                                              rfl
                                            exact norm_ (by first | (simp only [putAll, Act.put, List.setIfInBounds_toArray, List.set_cons_zero, List.set_cons_succ]; done) | (simp only [putAll, Act.put, List.setIfInBounds_toArray, List.set_cons_zero, List.set_cons_succ]; rfl)) (hJ7_8_16_29_30 (v253) _ ⟨hHeld, (by (with_reducible repeat (first | apply Kd.R_alloc | apply Kd.R_drewN | apply Kd.R_drew)); exact HO254.out), (by repeat (first | (with_reducible first | exact HB.out | apply below_alloc | apply pw_below_drewN | apply below_drew1) | exact HB.out))⟩)
                                        rintro v253 w34 ⟨hS_, h0_, h1_⟩
                                        have n0_ : Aside0 (Kd.R (Kd.int .u8) 5 w34 w.heap.size (fun _ => True) v253 y252) := ⟨h0_⟩
                                        have n1_ : Aside0 (Below w.heap.size w w34) := ⟨h1_⟩
                                        clear HB
                                        clear h0_ h1_
                                        have HO254 := n0_
                                        have HB := n1_
                                        clear n0_ n1_
                                        have hHeld : w34.cell? (ad250.add ((x9_2).toNat * 2)) = some (.int .i64 ((rd_T52 l2 x9_2).f0)) ∧ w34.cell? ⟨(ad250.add ((x9_2).toNat * 2)).block, (ad250.add ((x9_2).toNat * 2)).off + 1, none⟩ = some (.string ((rd_T52 l2 x9_2).f1)) ∧ w34.cell? (ad250.add ((x9_2).toNat * 2)) = some (.int .i64 ((rd_T52 l2 x9_2).f0)) ∧ w34.cell? ⟨(ad250.add ((x9_2).toNat * 2)).block, (ad250.add ((x9_2).toNat * 2)).off + 1, none⟩ = some (.string ((rd_T52 l2 x9_2).f1)) ∧ w34.cell? (ad250.add ((x9_2).toNat * 2)) = some (.int .i64 ((rd_T52 l2 x9_2).f0)) ∧ w34.cell? ⟨(ad250.add ((x9_2).toNat * 2)).block, (ad250.add ((x9_2).toNat * 2)).off + 1, none⟩ = some (.string ((rd_T52 l2 x9_2).f1)) ∧ w34.cell? (ad250.add ((x9_2).toNat * 2)) = some (.int .i64 ((rd_T52 l2 x9_2).f0)) ∧ w34.cell? ⟨(ad250.add ((x9_2).toNat * 2)).block, (ad250.add ((x9_2).toNat * 2)).off + 1, none⟩ = some (.string ((rd_T52 l2 x9_2).f1)) := hS_
                                        refine norm_ (a' := ?_) ?_ ?_
                                        rotate_left
                                        · simp only [putAll, Act.put, List.setIfInBounds_toArray, List.set_cons_zero, List.set_cons_succ]
                                          rfl
                                        refine pure_ (i := 31) (N := some 86) (v := ?_) (a' := ?_) #[true, true, true, true, true, true, true, true, true, true, true, true, true, true, true, true, true, true, true, true, true, true, true, true, true, true, true, true, true, true, true, true, false, false] rfl rfl (any_of HT_.out (by kernel_rfl)) (fun _ _ _ h => h) (Or.inl ⟨by rfl, ?_⟩) ?_ ?_
                                        rotate_left
                                        · intro w'
                                          go_simp
                                          with_reducible rfl
                                        rotate_left
                                        · simp only [Act.put, List.setIfInBounds_toArray, List.set_cons_zero, List.set_cons_succ, i64_w, i32_w]
                                          rfl
                                        refine pure_ (i := 32) (N := some 87) (v := ?_) (a' := ?_) #[true, true, true, true, true, true, true, true, true, true, true, true, true, true, true, true, true, true, true, true, true, true, true, true, true, true, true, true, true, true, true, true, true, false] rfl rfl (any_of HT_.out (by kernel_rfl)) (fun _ _ _ h => h) (Or.inl ⟨by rfl, ?_⟩) ?_ ?_
                                        rotate_left
                                        · intro w'
                                          go_simp
                                          with_reducible rfl
                                        rotate_left
                                        · simp only [Act.put, List.setIfInBounds_toArray, List.set_cons_zero, List.set_cons_succ, i64_w, i32_w]
                                          rfl
                                        refine pure_ (i := 33) (N := some 8) (v := ?_) (a' := ?_) #[true, true, true, true, true, true, true, true, true, true, true, true, true, true, true, true, true, true, true, true, true, true, true, true, true, true, true, true, true, true, true, true, true, true] rfl rfl (any_of HT_.out (by kernel_rfl)) (fun _ _ _ h => h) (Or.inl ⟨by rfl, ?_⟩) ?_ ?_
                                        rotate_left
                                        · intro w'
                                          go_simp
                                          with_reducible rfl
                                        rotate_left
                                        · simp only [Act.put, List.setIfInBounds_toArray, List.set_cons_zero, List.set_cons_succ, i64_w, i32_w]
                                          rfl
                                        refine done_ (done_of HT_.out (by kernel_rfl)) ?_
                                        try go_wp2
                                        go_roundg kj13
                                        case measure => have := HJ4.out; have := HK2.out; have := HJ13.out; omega
                                        case rel => exact ⟨(x8_2 ++ ((((strOfNums y252) ++ t256) ++ ((rd_T52 l2 x9_2).f1)) ++ t260)), (wrap64 (x9_2 + 1)), (by first | rfl | (simp; done) | (simp [*]; done)), (by first | rfl | (simp; done) | (simp [*]; done)), H', ⟨by have := HJ4.out; have := HK2.out; have := HJ13.out; omega⟩, ⟨by repeat (first | (with_reducible first | exact HB.out | apply below_alloc | apply pw_below_drewN | apply below_drew1) | exact HB.out)⟩⟩
                                      · rw [if_neg c27] at H
                                        exact absurd H (by simp)
                                    · rw [if_neg c26] at H
                                      exact absurd H (by simp)
                                  · rw [if_neg c23] at H
                                    exact absurd H (by simp)
                                · rw [if_neg c22] at H
                                  exact absurd H (by simp)
                            · rw [if_neg c19] at H
                              exact absurd H (by simp)
                          · rw [if_neg c18] at H
                            exact absurd H (by simp)
                  · rw [if_neg c13] at H
                    have c13b0 : decide (x9_2 < (l2.length : Int)) = false := decide_eq_false c13
                    clear c13
                    simp only [Option.some.injEq, Prod.mk.injEq] at H
                    obtain ⟨rfl, rfl⟩ := H
                    go_wp2
                    go_ret2
                    exact ⟨by first | rfl | (simp [errW_none, errW_some] <;> rfl) | (simp [*, errW_none, errW_some] <;> rfl), by repeat (first | (with_reducible first | exact HB.out | apply below_alloc | apply pw_below_drewN | apply below_drew1) | exact HB.out)⟩
            · rw [if_neg c9] at H
              exact absurd H (by simp)
  · rw [if_neg c4] at H
    have c4b0 : ((a0.size : Int) == 4) = false := beq_eq_false_iff_ne.mpr c4
    have c4b1 : ((a0.size : Int) != 4) = true := bne_iff_ne.mpr c4
    simp only [Option.some.injEq, Prod.mk.injEq] at H
    obtain ⟨rfl, rfl⟩ := H
    go_enter Try.func31, Try.ntmps31
    go_wp2
    go_ret2
    exact ⟨by first | rfl | (simp [errW_none, errW_some] <;> rfl) | (simp [*, errW_none, errW_some] <;> rfl), by repeat (first | (with_reducible first | exact HB.out | apply below_alloc | apply pw_below_drewN | apply below_drew1) | exact HB.out)⟩

end Go.Proofs.Ytdjpelcdijpihaa.PrintF
