/- A part of the proof of the claim: what it uses of the text PrintF5 (printed by xprint.py). -/
import Derived.Test.YtdjpelcdijpihaaShort
import Derived.Test.YtdjpelcdijpihaaXPrintF0
import Derived.Test.YtdjpelcdijpihaaXPrintF4
import Derived.Test.YtdjpelcdijpihaaXPrintC1
namespace Go.Proofs.Ytdjpelcdijpihaa.PrintF
open Go.Proofs.Ytdjpelcdijpihaa.Print
open Go.RowKit Go.Proofs.YtdjpelcdijpihaaW.PrintWords Go.Proofs.YtdjpelcdijpihaaW.PrintLast Go.Proofs.YtdjpelcdijpihaaW.PrintMore
attribute [local go_sem] min2_int min_two
set_option linter.unusedVariables false
set_option linter.unusedSimpArgs false
mutual
def dioramaref04_Put.j0 : Nat → ByteArray → Int → List (S52) → Bool → Option (ByteArray × Int)
 | 0, _, _, _, _ => none
 | k + 1, x0, x1, x2, x18 => if x18 = true then (some ((⟨#[]⟩ : ByteArray), 7)) else (if (x2.length : Int) > 8 then (some ((⟨#[]⟩ : ByteArray), 8)) else ((some (([(x1) % 256] : List Int) : List Int)).bind fun y225 => (if x0.size + (strOfNums y225).size ≤ 9223372036854775807 then (dioramaref04_Put.l0 k x2 (x0 ++ (strOfNums y225)) 0) else (none))))
def dioramaref04_Put.l0 : Nat → List (S52) → ByteArray → Int → Option (ByteArray × Int)
 | 0, _, _, _ => none
 | k + 1, x2, x8, x9 => if x9 < (x2.length : Int) then (if 0 ≤ x9 then (if ((rd_T52 x2 x9).f0) < 1 then (dioramaref04_Put.j2 k x2 x8 x9 true) else (dioramaref04_Put.j2 k x2 x8 x9 (decide (((rd_T52 x2 x9).f0) > 255)))) else (none)) else (some (x8, 0))
def dioramaref04_Put.j2 : Nat → List (S52) → ByteArray → Int → Bool → Option (ByteArray × Int)
 | 0, _, _, _, _ => none
 | k + 1, x2, x8, x9, x47 => if x47 = true then (some ((⟨#[]⟩ : ByteArray), 4)) else (if 0 ≤ x9 then (if x9 < (x2.length : Int) then (if (((rd_T52 x2 x9).f1).size : Int) > 16777216 then (some ((⟨#[]⟩ : ByteArray), 19)) else ((some (([((rd_T52 x2 x9).f0) % 256] : List Int) : List Int)).bind fun y232 => ((dioramaref01_Put.f k (IntKind.u64.wrap ((((rd_T52 x2 x9).f1).size : Int)))).bind fun t236 => (if (strOfNums y232).size + t236.size ≤ 9223372036854775807 then (if ((strOfNums y232) ++ t236).size + ((rd_T52 x2 x9).f1).size ≤ 9223372036854775807 then ((dioramaref03_Sum.f k ((rd_T52 x2 x9).f1)).bind fun t239 => ((dioramaref03_Put.f k t239).bind fun t240 => (if (((strOfNums y232) ++ t236) ++ ((rd_T52 x2 x9).f1)).size + t240.size ≤ 9223372036854775807 then (if x8.size + ((((strOfNums y232) ++ t236) ++ ((rd_T52 x2 x9).f1)) ++ t240).size ≤ 9223372036854775807 then (dioramaref04_Put.l0 k x2 (x8 ++ ((((strOfNums y232) ++ t236) ++ ((rd_T52 x2 x9).f1)) ++ t240)) (wrap64 (x9 + 1))) else (none)) else (none)))) else (none)) else (none))))) else (none)) else (none))
end
def dioramaref04_Put.f (k : Nat) (a0 : ByteArray) (a1 : Int) (l2 : List (S52)) : Option (ByteArray × Int) := if (a0.size : Int) = 4 then (if a1 < 1 then (dioramaref04_Put.j0 k a0 a1 l2 true) else (dioramaref04_Put.j0 k a0 a1 l2 (decide (a1 > 255)))) else (some ((⟨#[]⟩ : ByteArray), 6))
def dioramaref04_Put.T15 : Bool × List (List Nat × List Nat) := (true, [([], []), ([], []), ([], []), ([1, 2], [1, 2]), ([3], [3]), ([4], [4]), ([5], [5]), ([6], [6]), ([7], [7]), ([], []), ([], []), ([9, 10], [9, 10]), ([11], [11]), ([12], [12]), ([13], [13]), ([14], [14]), ([15], [15]), ([8, 16], [8, 16]), ([], []), ([], []), ([18, 19], [18, 19]), ([20], [20]), ([21], [21]), ([17, 22], [17, 22]), ([], []), ([], []), ([24, 25], [24, 25]), ([26], [26]), ([27], [27]), ([28, 16], [28]), ([29, 29], [29]), ([23, 30], [23, 30]), ([0, 31], [0, 31]), ([32, 30, 0, 1, 2, 3, 4, 5, 6, 7, 8, 9, 10, 11, 12, 13, 14, 15, 16, 17, 18, 19, 20, 21, 22, 23, 24, 25, 26, 27, 28, 29, 30, 31, 32], [0, 32])])
def dioramaref04_Put.B15 : List Nat := [0, 0, 0, 6, 14, 30, 62, 126, 254, 0, 0, 1536, 3584, 7680, 15872, 32256, 65024, 131070, 0, 0, 786432, 1835008, 3932160, 8388606, 0, 0, 50331648, 117440512, 251658240, 520224256, 1057095168, 2147483646, 4294967295, 8589934591]
theorem dioramaref04_Put.tab15 : rtab .any (opsOf Try.f31 15) = dioramaref04_Put.T15 := by kernel_rfl
theorem dioramaref04_Put.bits15 : waitsOk dioramaref04_Put.T15.2 dioramaref04_Put.B15 = true := by kernel_rfl
set_option maxHeartbeats 8000000 in
set_option maxRecDepth 100000 in
theorem dioramaref04_Put.calls (k : Nat) (a0 : ByteArray) (a1 : Int) (A2 : Option Addr) (c2 : Nat) (l2 : List (S52)) (r1 : ByteArray) (r2 : Int) (w : World) (hr2 : Kd.C k52 w A2 l2.length l2) (hc2 : l2.length ≤ c2) (h : dioramaref04_Put.f k a0 a1 l2 = some (r1, r2)) :
  Calls Try.prog 31 #[.string a0, .int .i64 a1, .slice A2 l2.length c2] w fun e w' => e = .returned (.tuple #[.string r1, .int .i64 r2]) ∧ Below w.heap.size w w' := by
 have HR2 := Aside0.mk hr2
 have HC2 := Aside0.mk hc2
 clear hr2 hc2
 have HB := Aside0.mk (Below.refl w.heap.size w)
 have H : (if (a0.size : Int) = 4 then (if a1 < 1 then (dioramaref04_Put.j0 k a0 a1 l2 true) else (dioramaref04_Put.j0 k a0 a1 l2 (decide (a1 > 255)))) else (some ((⟨#[]⟩ : ByteArray), 6))) = some (r1, r2) := h
 clear h
 by_cases c4 : (a0.size : Int) = 4
 ·rw [if_pos c4] at H
  have c4b0 : ((a0.size : Int) == 4) = true := beq_iff_eq.mpr c4
  have c4b1 : ((a0.size : Int) != 4) = false := bne_eq_false_iff_eq.mpr c4
  clear c4
  have HC5 := Aside0.mk H
  clear H
  go_enter Try.func31, Try.ntmps31
  go_upto_region 3 with (fail)
  go_cut [18] (fun v18 wc => ∃ (kq : Nat) (x18_4 : Bool), v18 = .bool x18_4 ∧ Aside0 (dioramaref04_Put.j0 kq a0 a1 l2 x18_4 = some (r1, r2)) ∧ Aside0 (kq ≤ k) ∧ Aside0 (Below w.heap.size w wc))
  case first =>
   have H := HC5.out
   clear HC5
   by_cases c6 : a1 < 1
   ·rw [if_pos c6] at H
    have c6b0 : decide (a1 < 1) = true := decide_eq_true c6
    clear c6
    (first | rw [c6b0] | (simp only [i64_w]; rw [c6b0]) | skip)
    have H' := Aside0.mk H
    clear H
    go_wp2
    go_meet
    case rel => exact ⟨_, (true), (by first | rfl | (simp; done) | (simp [*]; done)), H', ⟨by first | omega | exact Nat.le_refl _⟩, ⟨by repeat (first | (with_reducible first | exact HB.out | apply below_alloc | apply pw_below_drewN | apply below_drew1) | exact HB.out)⟩⟩
   ·rw [if_neg c6] at H
    have c6b0 : decide (a1 < 1) = false := decide_eq_false c6
    clear c6
    (first | rw [c6b0] | (simp only [i64_w]; rw [c6b0]) | skip)
    have H' := Aside0.mk H
    clear H
    go_wp2
    go_meet
    case rel => exact ⟨_, (decide (a1 > 255)), (by first | rfl | (simp; done) | (simp [*]; done)), H', ⟨by first | omega | exact Nat.le_refl _⟩, ⟨by repeat (first | (with_reducible first | exact HB.out | apply below_alloc | apply pw_below_drewN | apply below_drew1) | exact HB.out)⟩⟩
  case rest =>
   clear HC5
   try clear c2
   try clear p2
   try clear c3
   try clear c4
   try clear c4b0
   try clear c4b1
   try clear c6
   try clear c6b0
   obtain ⟨kq, x18_4, rfl, HA, HJ4, HB⟩ := hcut
   cases kq with
   | zero => exact absurd HA.out (by simp [dioramaref04_Put.j0])
   | succ kj4 =>
    have H := HA.out
    clear HA
    simp only [dioramaref04_Put.j0] at H
    by_cases c7 : x18_4 = true
    ·subst c7
     have H1 : (some ((⟨#[]⟩ : ByteArray), 7)) = some (r1, r2) := by rw [if_pos rfl] at H; exact H
     clear H
     have H := H1
     clear H1
     simp only [Option.some.injEq, Prod.mk.injEq] at H
     obtain ⟨rfl, rfl⟩ := H
     go_wp2
     go_ret2
     exact ⟨by first | rfl | (simp [errW_none, errW_some] <;> rfl) | (simp [*, errW_none, errW_some] <;> rfl), by repeat (first | (with_reducible first | exact HB.out | apply below_alloc | apply pw_below_drewN | apply below_drew1) | exact HB.out)⟩
    ·replace c7 := Bool.eq_false_iff.mpr c7
     subst c7
     have H1 : (if (l2.length : Int) > 8 then (some ((⟨#[]⟩ : ByteArray), 8)) else ((some (([(a1) % 256] : List Int) : List Int)).bind fun y225 => (if a0.size + (strOfNums y225).size ≤ 9223372036854775807 then (dioramaref04_Put.l0 kj4 l2 (a0 ++ (strOfNums y225)) 0) else (none)))) = some (r1, r2) := by rw [if_neg (show ¬ (false = true) by decide)] at H; exact H
     clear H
     have H := H1
     clear H1
     by_cases c8 : (l2.length : Int) > 8
     ·rw [if_pos c8] at H
      have c8b0 : decide (8 < (l2.length : Int)) = true := decide_eq_true c8
      have c8b1 : decide (8 < l2.length) = true := decide_eq_true (by omega)
      clear c8
      simp only [Option.some.injEq, Prod.mk.injEq] at H
      obtain ⟨rfl, rfl⟩ := H
      go_wp2
      go_ret2
      exact ⟨by first | rfl | (simp [errW_none, errW_some] <;> rfl) | (simp [*, errW_none, errW_some] <;> rfl), by repeat (first | (with_reducible first | exact HB.out | apply below_alloc | apply pw_below_drewN | apply below_drew1) | exact HB.out)⟩
     ·rw [if_neg c8] at H
      have c8b0 : decide (8 < (l2.length : Int)) = false := decide_eq_false c8
      have c8b1 : decide (8 < l2.length) = false := decide_eq_false (by omega)
      clear c8
      obtain ⟨y225, hy225⟩ : ∃ y_ : List Int, y_ = (([(a1) % 256] : List Int)) := ⟨_, rfl⟩
      replace H : (if a0.size + (strOfNums y225).size ≤ 9223372036854775807 then (dioramaref04_Put.l0 kj4 l2 (a0 ++ (strOfNums y225)) 0) else (none)) = some (r1, r2) := by first | (rw [hy225]; with_reducible exact H) | (have H2_ := (Option.bind_some _ _).symm.trans H; rw [hy225]; with_reducible exact H2_) | (have H2_ := (Option.bind_some _ _).symm.trans H; with_reducible exact H2_) | with_reducible exact H | (rw [hy225]; exact H) | exact H
      have Ny225 := Aside0.mk hy225
      clear hy225
      by_cases c9 : a0.size + (strOfNums y225).size ≤ 9223372036854775807
      ·rw [if_pos c9] at H
       have c9b0 := eq_true c9
       have c9b1 : decide (a0.size + (strOfNums y225).size ≤ 9223372036854775807) = true := decide_eq_true c9
       try have c9b2 : (9223372036854775807 < a0.size + (strOfNums y225).size) = False := eq_false (Nat.not_lt.2 c9)
       have H' := Aside0.mk H
       clear H
       go_wp2_with (first | ((with_reducible refine gate_dst (N := 25) rfl ?_); refine Kd.R_lit (Kd.int .u8) _ 5 ?hg (N := 25) ?hd (xs := ([(a1) % 256] : List Int)) (inner := [.int .u8 ((a1) % 256)]) (ok := fun _ => True) (okp := fun _ => True) ?hr ?hp (fun _ hk => hk) trivial (Below.refl _ _) (Nat.le_refl _) (by simp) ?_; (case hd => rfl); (case hg => rfl); (case hr => first | (go_simp; done) | (go_simp; rfl)); (case hp => exact (Reps.one (show Kd.M (Kd.int .u8) _ _ _ ((a1) % 256) [.int .u8 ((a1) % 256)] from rfl) (Reps.none _ _))); intro v226 w10 ho11 hb hg_ hnew_; clear hg_ hnew_; (first | rw [← Ny225.out] at ho11 | (simp only [Int.reduceToNat] at ho11; rw [← Ny225.out] at ho11)); have n0_ := Aside0.mk (Kd.R_lower ho11 (below_size (by repeat (first | (with_reducible first | exact HB.out | apply below_alloc | apply pw_below_drewN | apply below_drew1) | exact HB.out)))); have n1_ := Aside0.mk (below_step (by repeat (first | (with_reducible first | exact HB.out | apply below_alloc | apply pw_below_drewN | apply below_drew1) | exact HB.out)) hb); clear HB; have HO227 := n0_; have HB := n1_; clear n0_ n1_; clear hb ho11; have hcv12 := own_string (P := Try.prog) Try.underlying72 Try.underlying5 Try.underlying9 (Kd.own_of_R HO227.out)))
       go_loopg [8, 9] kj4 (fun kq v8 v9 w' => ∃ (x8_2 : ByteArray) (x9_2 : Int), v8 = .string x8_2 ∧ v9 = .int .i64 x9_2 ∧ Aside0 (dioramaref04_Put.l0 kq l2 x8_2 x9_2 = some (r1, r2)) ∧ Aside0 (kq ≤ kj4) ∧ Aside0 (Below w.heap.size w w'))
       case atStart => exact ⟨(a0 ++ (strOfNums y225)), (0), (by first | rfl | (simp; done) | (simp [*]; done)), (by first | rfl | (simp; done) | (simp [*]; done)), H', ⟨Nat.le_refl _⟩, ⟨by repeat (first | (with_reducible first | exact HB.out | apply below_alloc | apply pw_below_drewN | apply below_drew1) | exact HB.out)⟩⟩
       case round =>
        clear H'
        try clear hcv1
        try clear c2
        try clear p2
        try clear c3
        try clear c4
        try clear c4b0
        try clear c4b1
        try clear c6
        try clear c6b0
        try clear c7
        try clear c8
        try clear c8b0
        try clear c8b1
        try clear c9
        try clear c9b0
        try clear c9b1
        try clear c9b2
        try clear hcv12
        try clear p2
        obtain ⟨x8_2, x9_2, rfl, rfl, HA, HK2, HB⟩ := hrel
        cases gk with
        | zero => exact absurd HA.out (by simp [dioramaref04_Put.l0])
        | succ k2 =>
         have H := HA.out
         clear HA
         simp only [dioramaref04_Put.l0] at H
         by_cases c13 : x9_2 < (l2.length : Int)
         ·rw [if_pos c13] at H
          have c13b0 : decide (x9_2 < (l2.length : Int)) = true := decide_eq_true c13
          clear c13
          have HC14 := Aside0.mk H
          clear H
          go_upto_region 11 with (fail)
          go_cut [47] (fun v47 wc => ∃ (kq : Nat) (x47_13 : Bool), v47 = .bool x47_13 ∧ Aside0 (dioramaref04_Put.j2 kq l2 x8_2 x9_2 x47_13 = some (r1, r2)) ∧ Aside0 (kq ≤ k2) ∧ Aside0 (Below w.heap.size w wc))
          case first =>
           have H := HC14.out
           clear HC14
           by_cases c15 : 0 ≤ x9_2
           ·rw [if_pos c15] at H
            have c15b0 : decide (0 ≤ x9_2) = true := decide_eq_true c15
            clear c15
            (first | rw [c15b0] | (simp only [i64_w]; rw [c15b0]) | skip)
            by_cases c16 : ((rd_T52 l2 x9_2).f0) < 1
            ·rw [if_pos c16] at H
             have c16b0 : decide (((rd_T52 l2 x9_2).f0) < 1) = true := decide_eq_true c16
             clear c16
             have H' := Aside0.mk H
             clear H
             have p228 : 0 ≤ (x9_2 : Int) := of_decide_eq_true (by first | (with_reducible assumption) | assumption)
             have q228 : x9_2 < (l2.length : Int) := of_decide_eq_true (by first | (with_reducible assumption) | assumption)
             obtain ⟨ad228, e228, hx228_0, hx228_1⟩ := at_T52 HR2.out x9_2 p228 q228
             cases e228
             replace hx228_0 := kpz HB.out hx228_0
             replace hx228_1 := kpz HB.out hx228_1
             replace p228 := eq_true p228
             replace q228 := eq_true q228
             go_wp2
             go_meet
             case rel => exact ⟨_, (true), (by first | rfl | (simp; done) | (simp [*]; done)), H', ⟨by have := HJ4.out; have := HK2.out; first | omega | exact Nat.le_refl _⟩, ⟨by repeat (first | (with_reducible first | exact HB.out | apply below_alloc | apply pw_below_drewN | apply below_drew1) | exact HB.out)⟩⟩
            ·rw [if_neg c16] at H
             have c16b0 : decide (((rd_T52 l2 x9_2).f0) < 1) = false := decide_eq_false c16
             clear c16
             have H' := Aside0.mk H
             clear H
             have p228 : 0 ≤ (x9_2 : Int) := of_decide_eq_true (by first | (with_reducible assumption) | assumption)
             have q228 : x9_2 < (l2.length : Int) := of_decide_eq_true (by first | (with_reducible assumption) | assumption)
             obtain ⟨ad228, e228, hx228_0, hx228_1⟩ := at_T52 HR2.out x9_2 p228 q228
             cases e228
             replace hx228_0 := kpz HB.out hx228_0
             replace hx228_1 := kpz HB.out hx228_1
             replace p228 := eq_true p228
             replace q228 := eq_true q228
             have p229 : 0 ≤ (x9_2 : Int) := of_decide_eq_true (by first | (with_reducible assumption) | assumption)
             have q229 : x9_2 < (l2.length : Int) := of_decide_eq_true (by first | (with_reducible assumption) | assumption)
             obtain ⟨ad229, e229, hx229_0, hx229_1⟩ := at_T52 HR2.out x9_2 p229 q229
             obtain rfl : ad228 = ad229 := (by injection e229)
             replace hx229_0 := kpz HB.out hx229_0
             replace hx229_1 := kpz HB.out hx229_1
             replace p229 := eq_true p229
             replace q229 := eq_true q229
             go_wp2
             go_meet
             case rel => exact ⟨_, (decide (((rd_T52 l2 x9_2).f0) > 255)), (by first | rfl | (simp; done) | (simp [*]; done)), H', ⟨by have := HJ4.out; have := HK2.out; first | omega | exact Nat.le_refl _⟩, ⟨by repeat (first | (with_reducible first | exact HB.out | apply below_alloc | apply pw_below_drewN | apply below_drew1) | exact HB.out)⟩⟩
           ·rw [if_neg c15] at H
            exact absurd H (by simp)
          case rest =>
           clear HC14
           try clear c1
           try clear hcv1
           try clear c2
           try clear p2
           try clear q2
           try clear hx2
           try clear c3
           try clear c4
           try clear c4b0
           try clear c4b1
           try clear c6
           try clear c6b0
           try clear c7
           try clear c8
           try clear c8b0
           try clear c8b1
           try clear c9
           try clear c9b0
           try clear c9b1
           try clear c9b2
           try clear hcv12
           try clear c13
           try clear c13b0
           try clear c15
           try clear c15b0
           try clear c16
           try clear c16b0
           try clear hx228_0
           try clear hx228_1
           try clear hx229_0
           try clear hx229_1
           try clear p2
           try clear p228
           try clear p229
           try clear q228
           try clear q229
           obtain ⟨kq, x47_13, rfl, HA, HJ13, HB⟩ := hcut
           cases kq with
           | zero => exact absurd HA.out (by simp [dioramaref04_Put.j2])
           | succ kj13 =>
            have H := HA.out
            clear HA
            simp only [dioramaref04_Put.j2] at H
            by_cases c17 : x47_13 = true
            ·subst c17
             have H1 : (some ((⟨#[]⟩ : ByteArray), 4)) = some (r1, r2) := by rw [if_pos rfl] at H; exact H
             clear H
             have H := H1
             clear H1
             simp only [Option.some.injEq, Prod.mk.injEq] at H
             obtain ⟨rfl, rfl⟩ := H
             go_wp2
             go_ret2
             exact ⟨by first | rfl | (simp [errW_none, errW_some] <;> rfl) | (simp [*, errW_none, errW_some] <;> rfl), by repeat (first | (with_reducible first | exact HB.out | apply below_alloc | apply pw_below_drewN | apply below_drew1) | exact HB.out)⟩
            ·replace c17 := Bool.eq_false_iff.mpr c17
             subst c17
             have H1 : (if 0 ≤ x9_2 then (if x9_2 < (l2.length : Int) then (if (((rd_T52 l2 x9_2).f1).size : Int) > 16777216 then (some ((⟨#[]⟩ : ByteArray), 19)) else ((some (([((rd_T52 l2 x9_2).f0) % 256] : List Int) : List Int)).bind fun y232 => ((dioramaref01_Put.f kj13 (IntKind.u64.wrap ((((rd_T52 l2 x9_2).f1).size : Int)))).bind fun t236 => (if (strOfNums y232).size + t236.size ≤ 9223372036854775807 then (if ((strOfNums y232) ++ t236).size + ((rd_T52 l2 x9_2).f1).size ≤ 9223372036854775807 then ((dioramaref03_Sum.f kj13 ((rd_T52 l2 x9_2).f1)).bind fun t239 => ((dioramaref03_Put.f kj13 t239).bind fun t240 => (if (((strOfNums y232) ++ t236) ++ ((rd_T52 l2 x9_2).f1)).size + t240.size ≤ 9223372036854775807 then (if x8_2.size + ((((strOfNums y232) ++ t236) ++ ((rd_T52 l2 x9_2).f1)) ++ t240).size ≤ 9223372036854775807 then (dioramaref04_Put.l0 kj13 l2 (x8_2 ++ ((((strOfNums y232) ++ t236) ++ ((rd_T52 l2 x9_2).f1)) ++ t240)) (wrap64 (x9_2 + 1))) else (none)) else (none)))) else (none)) else (none))))) else (none)) else (none)) = some (r1, r2) := by rw [if_neg (show ¬ (false = true) by decide)] at H; exact H
             clear H
             have H := H1
             clear H1
             by_cases c18 : 0 ≤ x9_2
             ·rw [if_pos c18] at H
              have c18b0 : decide (0 ≤ x9_2) = true := decide_eq_true c18
              clear c18
              by_cases c19 : x9_2 < (l2.length : Int)
              ·rw [if_pos c19] at H
               have c19b0 : decide (x9_2 < (l2.length : Int)) = true := decide_eq_true c19
               clear c19
               by_cases c20 : (((rd_T52 l2 x9_2).f1).size : Int) > 16777216
               ·rw [if_pos c20] at H
                have c20b0 : decide (16777216 < (((rd_T52 l2 x9_2).f1).size : Int)) = true := decide_eq_true c20
                have c20b1 : decide (16777216 < ((rd_T52 l2 x9_2).f1).size) = true := decide_eq_true (by omega)
                clear c20
                simp only [Option.some.injEq, Prod.mk.injEq] at H
                obtain ⟨rfl, rfl⟩ := H
                have p230 : 0 ≤ (x9_2 : Int) := of_decide_eq_true (by first | (with_reducible assumption) | assumption)
                have q230 : x9_2 < (l2.length : Int) := of_decide_eq_true (by first | (with_reducible assumption) | assumption)
                obtain ⟨ad230, e230, hx230_0, hx230_1⟩ := at_T52 HR2.out x9_2 p230 q230
                cases e230
                replace hx230_0 := kpz HB.out hx230_0
                replace hx230_1 := kpz HB.out hx230_1
                replace p230 := eq_true p230
                replace q230 := eq_true q230
                go_wp2
                go_ret2
                exact ⟨by first | rfl | (simp [errW_none, errW_some] <;> rfl) | (simp [*, errW_none, errW_some] <;> rfl), by repeat (first | (with_reducible first | exact HB.out | apply below_alloc | apply pw_below_drewN | apply below_drew1) | exact HB.out)⟩
               ·rw [if_neg c20] at H
                have c20b0 : decide (16777216 < (((rd_T52 l2 x9_2).f1).size : Int)) = false := decide_eq_false c20
                have c20b1 : decide (16777216 < ((rd_T52 l2 x9_2).f1).size) = false := decide_eq_false (by omega)
                clear c20
                obtain ⟨y232, hy232⟩ : ∃ y_ : List Int, y_ = (([((rd_T52 l2 x9_2).f0) % 256] : List Int)) := ⟨_, rfl⟩
                replace H : ((dioramaref01_Put.f kj13 (IntKind.u64.wrap ((((rd_T52 l2 x9_2).f1).size : Int)))).bind fun t236 => (if (strOfNums y232).size + t236.size ≤ 9223372036854775807 then (if ((strOfNums y232) ++ t236).size + ((rd_T52 l2 x9_2).f1).size ≤ 9223372036854775807 then ((dioramaref03_Sum.f kj13 ((rd_T52 l2 x9_2).f1)).bind fun t239 => ((dioramaref03_Put.f kj13 t239).bind fun t240 => (if (((strOfNums y232) ++ t236) ++ ((rd_T52 l2 x9_2).f1)).size + t240.size ≤ 9223372036854775807 then (if x8_2.size + ((((strOfNums y232) ++ t236) ++ ((rd_T52 l2 x9_2).f1)) ++ t240).size ≤ 9223372036854775807 then (dioramaref04_Put.l0 kj13 l2 (x8_2 ++ ((((strOfNums y232) ++ t236) ++ ((rd_T52 l2 x9_2).f1)) ++ t240)) (wrap64 (x9_2 + 1))) else (none)) else (none)))) else (none)) else (none))) = some (r1, r2) := by first | (rw [hy232]; with_reducible exact H) | (have H2_ := (Option.bind_some _ _).symm.trans H; rw [hy232]; with_reducible exact H2_) | (have H2_ := (Option.bind_some _ _).symm.trans H; with_reducible exact H2_) | with_reducible exact H | (rw [hy232]; exact H) | exact H
                have Ny232 := Aside0.mk hy232
                clear hy232
                replace H := Option.bind_eq_some_iff.mp H
                obtain ⟨t236, A210, H⟩ := H
                replace H : (if (strOfNums y232).size + t236.size ≤ 9223372036854775807 then (if ((strOfNums y232) ++ t236).size + ((rd_T52 l2 x9_2).f1).size ≤ 9223372036854775807 then ((dioramaref03_Sum.f kj13 ((rd_T52 l2 x9_2).f1)).bind fun t239 => ((dioramaref03_Put.f kj13 t239).bind fun t240 => (if (((strOfNums y232) ++ t236) ++ ((rd_T52 l2 x9_2).f1)).size + t240.size ≤ 9223372036854775807 then (if x8_2.size + ((((strOfNums y232) ++ t236) ++ ((rd_T52 l2 x9_2).f1)) ++ t240).size ≤ 9223372036854775807 then (dioramaref04_Put.l0 kj13 l2 (x8_2 ++ ((((strOfNums y232) ++ t236) ++ ((rd_T52 l2 x9_2).f1)) ++ t240)) (wrap64 (x9_2 + 1))) else (none)) else (none)))) else (none)) else (none)) = some (r1, r2) := H
                have A21 := Aside0.mk A210
                clear A210
                by_cases c22 : (strOfNums y232).size + t236.size ≤ 9223372036854775807
                ·rw [if_pos c22] at H
                 have c22b0 := eq_true c22
                 have c22b1 : decide ((strOfNums y232).size + t236.size ≤ 9223372036854775807) = true := decide_eq_true c22
                 try have c22b2 : (9223372036854775807 < (strOfNums y232).size + t236.size) = False := eq_false (Nat.not_lt.2 c22)
                 by_cases c23 : ((strOfNums y232) ++ t236).size + ((rd_T52 l2 x9_2).f1).size ≤ 9223372036854775807
                 ·rw [if_pos c23] at H
                  have c23b0 := eq_true c23
                  have c23b1 : decide (((strOfNums y232) ++ t236).size + ((rd_T52 l2 x9_2).f1).size ≤ 9223372036854775807) = true := decide_eq_true c23
                  try have c23b2 : (9223372036854775807 < ((strOfNums y232) ++ t236).size + ((rd_T52 l2 x9_2).f1).size) = False := eq_false (Nat.not_lt.2 c23)
                  have c23b3 := c23b2
                  simp only [ByteArray.size_append] at c23b3
                  replace H := Option.bind_eq_some_iff.mp H
                  obtain ⟨t239, A240, H⟩ := H
                  replace H : ((dioramaref03_Put.f kj13 t239).bind fun t240 => (if (((strOfNums y232) ++ t236) ++ ((rd_T52 l2 x9_2).f1)).size + t240.size ≤ 9223372036854775807 then (if x8_2.size + ((((strOfNums y232) ++ t236) ++ ((rd_T52 l2 x9_2).f1)) ++ t240).size ≤ 9223372036854775807 then (dioramaref04_Put.l0 kj13 l2 (x8_2 ++ ((((strOfNums y232) ++ t236) ++ ((rd_T52 l2 x9_2).f1)) ++ t240)) (wrap64 (x9_2 + 1))) else (none)) else (none))) = some (r1, r2) := H
                  have A24 := Aside0.mk A240
                  clear A240
                  replace H := Option.bind_eq_some_iff.mp H
                  obtain ⟨t240, A250, H⟩ := H
                  replace H : (if (((strOfNums y232) ++ t236) ++ ((rd_T52 l2 x9_2).f1)).size + t240.size ≤ 9223372036854775807 then (if x8_2.size + ((((strOfNums y232) ++ t236) ++ ((rd_T52 l2 x9_2).f1)) ++ t240).size ≤ 9223372036854775807 then (dioramaref04_Put.l0 kj13 l2 (x8_2 ++ ((((strOfNums y232) ++ t236) ++ ((rd_T52 l2 x9_2).f1)) ++ t240)) (wrap64 (x9_2 + 1))) else (none)) else (none)) = some (r1, r2) := H
                  have A25 := Aside0.mk A250
                  clear A250
                  by_cases c26 : (((strOfNums y232) ++ t236) ++ ((rd_T52 l2 x9_2).f1)).size + t240.size ≤ 9223372036854775807
                  ·rw [if_pos c26] at H
                   have c26b0 := eq_true c26
                   have c26b1 : decide ((((strOfNums y232) ++ t236) ++ ((rd_T52 l2 x9_2).f1)).size + t240.size ≤ 9223372036854775807) = true := decide_eq_true c26
                   try have c26b2 : (9223372036854775807 < (((strOfNums y232) ++ t236) ++ ((rd_T52 l2 x9_2).f1)).size + t240.size) = False := eq_false (Nat.not_lt.2 c26)
                   have c26b3 := c26b2
                   simp only [ByteArray.size_append] at c26b3
                   by_cases c27 : x8_2.size + ((((strOfNums y232) ++ t236) ++ ((rd_T52 l2 x9_2).f1)) ++ t240).size ≤ 9223372036854775807
                   ·rw [if_pos c27] at H
                    have c27b0 := eq_true c27
                    have c27b1 : decide (x8_2.size + ((((strOfNums y232) ++ t236) ++ ((rd_T52 l2 x9_2).f1)) ++ t240).size ≤ 9223372036854775807) = true := decide_eq_true c27
                    try have c27b2 : (9223372036854775807 < x8_2.size + ((((strOfNums y232) ++ t236) ++ ((rd_T52 l2 x9_2).f1)) ++ t240).size) = False := eq_false (Nat.not_lt.2 c27)
                    have c27b3 := c27b2
                    simp only [ByteArray.size_append] at c27b3
                    have H' := Aside0.mk H
                    clear H
                    have p230 : 0 ≤ (x9_2 : Int) := of_decide_eq_true (by first | (with_reducible assumption) | assumption)
                    have q230 : x9_2 < (l2.length : Int) := of_decide_eq_true (by first | (with_reducible assumption) | assumption)
                    obtain ⟨ad230, e230, hx230_0, hx230_1⟩ := at_T52 HR2.out x9_2 p230 q230
                    cases e230
                    replace hx230_0 := kpz HB.out hx230_0
                    replace hx230_1 := kpz HB.out hx230_1
                    replace p230 := eq_true p230
                    replace q230 := eq_true q230
                    try go_wp2
                    have n0_ := Aside0.mk (below_drew1 HB.out)
                    clear HB
                    have HB := n0_
                    clear n0_
                    have p231 : 0 ≤ (x9_2 : Int) := of_decide_eq_true (by first | (with_reducible assumption) | assumption)
                    have q231 : x9_2 < (l2.length : Int) := of_decide_eq_true (by first | (with_reducible assumption) | assumption)
                    obtain ⟨ad231, e231, hx231_0, hx231_1⟩ := at_T52 HR2.out x9_2 p231 q231
                    have hw231_1 := hx231_1
                    have hw231_0 := hx231_0
                    obtain rfl : ad230 = ad231 := (by injection e231)
                    replace hx231_0 := kpz HB.out hx231_0
                    replace hx231_1 := kpz HB.out hx231_1
                    replace p231 := eq_true p231
                    replace q231 := eq_true q231
                    have p235 : 0 ≤ (x9_2 : Int) := of_decide_eq_true (by first | (with_reducible assumption) | assumption)
                    have q235 : x9_2 < (l2.length : Int) := of_decide_eq_true (by first | (with_reducible assumption) | assumption)
                    obtain ⟨ad235, e235, hx235_0, hx235_1⟩ := at_T52 HR2.out x9_2 p235 q235
                    have hw235_1 := hx235_1
                    have hw235_0 := hx235_0
                    obtain rfl : ad230 = ad235 := (by injection e235)
                    replace hx235_0 := kpz HB.out hx235_0
                    replace hx235_1 := kpz HB.out hx235_1
                    replace p235 := eq_true p235
                    replace q235 := eq_true q235
                    have p237 : 0 ≤ (x9_2 : Int) := of_decide_eq_true (by first | (with_reducible assumption) | assumption)
                    have q237 : x9_2 < (l2.length : Int) := of_decide_eq_true (by first | (with_reducible assumption) | assumption)
                    obtain ⟨ad237, e237, hx237_0, hx237_1⟩ := at_T52 HR2.out x9_2 p237 q237
                    have hw237_1 := hx237_1
                    have hw237_0 := hx237_0
                    obtain rfl : ad230 = ad237 := (by injection e237)
                    replace hx237_0 := kpz HB.out hx237_0
                    replace hx237_1 := kpz HB.out hx237_1
                    replace p237 := eq_true p237
                    replace q237 := eq_true q237
                    have p238 : 0 ≤ (x9_2 : Int) := of_decide_eq_true (by first | (with_reducible assumption) | assumption)
                    have q238 : x9_2 < (l2.length : Int) := of_decide_eq_true (by first | (with_reducible assumption) | assumption)
                    obtain ⟨ad238, e238, hx238_0, hx238_1⟩ := at_T52 HR2.out x9_2 p238 q238
                    have hw238_1 := hx238_1
                    have hw238_0 := hx238_0
                    obtain rfl : ad230 = ad238 := (by injection e238)
                    replace hx238_0 := kpz HB.out hx238_0
                    replace hx238_1 := kpz HB.out hx238_1
                    replace p238 := eq_true p238
                    replace q238 := eq_true q238
                    refine start_ (n := 34) (S := fun w' => w'.cell? (ad230.add ((x9_2).toNat * 2)) = some (.int .i64 ((rd_T52 l2 x9_2).f0)) ∧ w'.cell? ⟨(ad230.add ((x9_2).toNat * 2)).block, (ad230.add ((x9_2).toNat * 2)).off + 1, none⟩ = some (.string ((rd_T52 l2 x9_2).f1)) ∧ w'.cell? (ad230.add ((x9_2).toNat * 2)) = some (.int .i64 ((rd_T52 l2 x9_2).f0)) ∧ w'.cell? ⟨(ad230.add ((x9_2).toNat * 2)).block, (ad230.add ((x9_2).toNat * 2)).off + 1, none⟩ = some (.string ((rd_T52 l2 x9_2).f1)) ∧ w'.cell? (ad230.add ((x9_2).toNat * 2)) = some (.int .i64 ((rd_T52 l2 x9_2).f0)) ∧ w'.cell? ⟨(ad230.add ((x9_2).toNat * 2)).block, (ad230.add ((x9_2).toNat * 2)).off + 1, none⟩ = some (.string ((rd_T52 l2 x9_2).f1)) ∧ w'.cell? (ad230.add ((x9_2).toNat * 2)) = some (.int .i64 ((rd_T52 l2 x9_2).f0)) ∧ w'.cell? ⟨(ad230.add ((x9_2).toNat * 2)).block, (ad230.add ((x9_2).toNat * 2)).off + 1, none⟩ = some (.string ((rd_T52 l2 x9_2).f1))) (ds := []) #[false, false, false, false, false, false, false, false, false, false, false, false, false, false, false, false, false, false, false, false, false, false, false, false, false, false, false, false, false, false, false, false, false, false] (by kernel_rfl) rfl rfl ⟨(kpz HB.out hw231_0), (kpz HB.out hw231_1), (kpz HB.out hw235_0), (kpz HB.out hw235_1), (kpz HB.out hw237_0), (kpz HB.out hw237_1), (kpz HB.out hw238_0), (kpz HB.out hw238_1)⟩ (fun hHeld => ?_); refine with_tabW dioramaref04_Put.tab15 dioramaref04_Put.bits15 (fun HT_ HW_ => ?_)
                    generalize wc.drew = w28 at HB hx231_0 hx231_1 hx235_0 hx235_1 hx237_0 hx237_1 hx238_0 hx238_1 hHeld ⊢
                    refine pure_ (i := 0) (N := some 55) (v := ?_) (a' := ?_) #[true, false, false, false, false, false, false, false, false, false, false, false, false, false, false, false, false, false, false, false, false, false, false, false, false, false, false, false, false, false, false, false, false, false] rfl rfl (any_of HT_.out (by kernel_rfl)) (fun _ _ _ h => h) (Or.inl ⟨by rfl, ?_⟩) ?_ ?_
                    rotate_left
                    ·intro w'
                     go_simp
                     with_reducible rfl
                    rotate_left
                    ·simp only [Act.put, zq1, zq2, zq3, i64_w]
                     rfl
                    refine pure_ (i := 1) (N := some 56) (v := ?_) (a' := ?_) #[true, true, false, false, false, false, false, false, false, false, false, false, false, false, false, false, false, false, false, false, false, false, false, false, false, false, false, false, false, false, false, false, false, false] rfl rfl (any_of HT_.out (by kernel_rfl)) (fun _ _ _ h => h) (Or.inl ⟨by rfl, ?_⟩) ?_ ?_
                    rotate_left
                    ·intro w'
                     go_simp
                     with_reducible rfl
                    rotate_left
                    ·simp only [Act.put, zq1, zq2, zq3, i64_w]
                     rfl
                    refine pure_ (i := 2) (N := some 57) (v := ?_) (a' := ?_) #[true, true, true, false, false, false, false, false, false, false, false, false, false, false, false, false, false, false, false, false, false, false, false, false, false, false, false, false, false, false, false, false, false, false] rfl rfl (any_of HT_.out (by kernel_rfl)) (fun _ _ _ h => h) (Or.inl ⟨by rfl, ?_⟩) ?_ ?_
                    rotate_left
                    ·intro w'
                     go_simp
                     with_reducible rfl
                    rotate_left
                    ·simp only [Act.put, zq1, zq2, zq3, i64_w]
                     rfl
                    refine pure_ (i := 3) (N := some 58) (v := ?_) (a' := ?_) #[true, true, true, true, false, false, false, false, false, false, false, false, false, false, false, false, false, false, false, false, false, false, false, false, false, false, false, false, false, false, false, false, false, false] rfl rfl (any_of HT_.out (by kernel_rfl)) (fun _ _ _ h => h) (Or.inl ⟨by rfl, ?_⟩) ?_ ?_
                    rotate_left
                    ·intro w'
                     go_simp
                     with_reducible rfl
                    rotate_left
                    ·simp only [Act.put, zq1, zq2, zq3, i64_w]
                     rfl
                    refine pure_ (i := 4) (N := some 59) (v := ?_) (a' := ?_) #[true, true, true, true, true, false, false, false, false, false, false, false, false, false, false, false, false, false, false, false, false, false, false, false, false, false, false, false, false, false, false, false, false, false] rfl rfl (any_of HT_.out (by kernel_rfl)) (fun _ _ _ h => h) (Or.inl ⟨by rfl, ?_⟩) ?_ ?_
                    rotate_left
                    ·intro w'
                     go_simp
                     with_reducible rfl
                    rotate_left
                    ·simp only [Act.put, zq1, zq2, zq3, i64_w]
                     rfl
                    refine pure_ (i := 9) (N := some 64) (v := ?_) (a' := ?_) #[true, true, true, true, true, false, false, false, false, true, false, false, false, false, false, false, false, false, false, false, false, false, false, false, false, false, false, false, false, false, false, false, false, false] rfl rfl (any_of HT_.out (by kernel_rfl)) (fun _ _ _ h => h) (Or.inl ⟨by rfl, ?_⟩) ?_ ?_
                    rotate_left
                    ·intro w'
                     go_simp
                     with_reducible rfl
                    rotate_left
                    ·simp only [Act.put, zq1, zq2, zq3, i64_w]
                     rfl
                    refine pure_ (i := 10) (N := some 65) (v := ?_) (a' := ?_) #[true, true, true, true, true, false, false, false, false, true, true, false, false, false, false, false, false, false, false, false, false, false, false, false, false, false, false, false, false, false, false, false, false, false] rfl rfl (any_of HT_.out (by kernel_rfl)) (fun _ _ _ h => h) (Or.inl ⟨by rfl, ?_⟩) ?_ ?_
                    rotate_left
                    ·intro w'
                     go_simp
                     with_reducible rfl
                    rotate_left
                    ·simp only [Act.put, zq1, zq2, zq3, i64_w]
                     rfl
                    refine pure_ (i := 11) (N := some 66) (v := ?_) (a' := ?_) #[true, true, true, true, true, false, false, false, false, true, true, true, false, false, false, false, false, false, false, false, false, false, false, false, false, false, false, false, false, false, false, false, false, false] rfl rfl (any_of HT_.out (by kernel_rfl)) (fun _ _ _ h => h) (Or.inl ⟨by rfl, ?_⟩) ?_ ?_
                    rotate_left
                    ·intro w'
                     go_simp
                     with_reducible rfl
                    rotate_left
                    ·simp only [Act.put, zq1, zq2, zq3, i64_w]
                     rfl
                    refine pure_ (i := 12) (N := some 67) (v := ?_) (a' := ?_) #[true, true, true, true, true, false, false, false, false, true, true, true, true, false, false, false, false, false, false, false, false, false, false, false, false, false, false, false, false, false, false, false, false, false] rfl rfl (any_of HT_.out (by kernel_rfl)) (fun _ _ _ h => h) (Or.inl ⟨by rfl, ?_⟩) ?_ ?_
                    rotate_left
                    ·intro w'
                     go_simp
                     with_reducible rfl
                    rotate_left
                    ·simp only [Act.put, zq1, zq2, zq3, i64_w]
                     rfl
                    refine pure_ (i := 18) (N := some 73) (v := ?_) (a' := ?_) #[true, true, true, true, true, false, false, false, false, true, true, true, true, false, false, false, false, false, true, false, false, false, false, false, false, false, false, false, false, false, false, false, false, false] rfl rfl (any_of HT_.out (by kernel_rfl)) (fun _ _ _ h => h) (Or.inl ⟨by rfl, ?_⟩) ?_ ?_
                    rotate_left
                    ·intro w'
                     go_simp
                     with_reducible rfl
                    rotate_left
                    ·simp only [Act.put, zq1, zq2, zq3, i64_w]
                     rfl
                    refine pure_ (i := 19) (N := some 74) (v := ?_) (a' := ?_) #[true, true, true, true, true, false, false, false, false, true, true, true, true, false, false, false, false, false, true, true, false, false, false, false, false, false, false, false, false, false, false, false, false, false] rfl rfl (any_of HT_.out (by kernel_rfl)) (fun _ _ _ h => h) (Or.inl ⟨by rfl, ?_⟩) ?_ ?_
                    rotate_left
                    ·intro w'
                     go_simp
                     with_reducible rfl
                    rotate_left
                    ·simp only [Act.put, zq1, zq2, zq3, i64_w]
                     rfl
                    refine pure_ (i := 20) (N := some 75) (v := ?_) (a' := ?_) #[true, true, true, true, true, false, false, false, false, true, true, true, true, false, false, false, false, false, true, true, true, false, false, false, false, false, false, false, false, false, false, false, false, false] rfl rfl (any_of HT_.out (by kernel_rfl)) (fun _ _ _ h => h) (Or.inl ⟨by rfl, ?_⟩) ?_ ?_
                    rotate_left
                    ·intro w'
                     go_simp
                     with_reducible rfl
                    rotate_left
                    ·simp only [Act.put, zq1, zq2, zq3, i64_w]
                     rfl
                    refine pure_ (i := 21) (N := some 76) (v := ?_) (a' := ?_) #[true, true, true, true, true, false, false, false, false, true, true, true, true, false, false, false, false, false, true, true, true, true, false, false, false, false, false, false, false, false, false, false, false, false] rfl rfl (any_of HT_.out (by kernel_rfl)) (fun _ _ _ h => h) (Or.inl ⟨by rfl, ?_⟩) ?_ ?_
                    rotate_left
                    ·intro w'
                     go_simp
                     with_reducible rfl
                    rotate_left
                    ·simp only [Act.put, zq1, zq2, zq3, i64_w]
                     rfl
                    refine pure_ (i := 24) (N := some 79) (v := ?_) (a' := ?_) #[true, true, true, true, true, false, false, false, false, true, true, true, true, false, false, false, false, false, true, true, true, true, false, false, true, false, false, false, false, false, false, false, false, false] rfl rfl (any_of HT_.out (by kernel_rfl)) (fun _ _ _ h => h) (Or.inl ⟨by rfl, ?_⟩) ?_ ?_
                    rotate_left
                    ·intro w'
                     go_simp
                     with_reducible rfl
                    rotate_left
                    ·simp only [Act.put, zq1, zq2, zq3, i64_w]
                     rfl
                    refine pure_ (i := 25) (N := some 80) (v := ?_) (a' := ?_) #[true, true, true, true, true, false, false, false, false, true, true, true, true, false, false, false, false, false, true, true, true, true, false, false, true, true, false, false, false, false, false, false, false, false] rfl rfl (any_of HT_.out (by kernel_rfl)) (fun _ _ _ h => h) (Or.inl ⟨by rfl, ?_⟩) ?_ ?_
                    rotate_left
                    ·intro w'
                     go_simp
                     with_reducible rfl
                    rotate_left
                    ·simp only [Act.put, zq1, zq2, zq3, i64_w]
                     rfl
                    refine pure_ (i := 26) (N := some 81) (v := ?_) (a' := ?_) #[true, true, true, true, true, false, false, false, false, true, true, true, true, false, false, false, false, false, true, true, true, true, false, false, true, true, true, false, false, false, false, false, false, false] rfl rfl (any_of HT_.out (by kernel_rfl)) (fun _ _ _ h => h) (Or.inl ⟨by rfl, ?_⟩) ?_ ?_
                    rotate_left
                    ·intro w'
                     go_simp
                     with_reducible rfl
                    rotate_left
                    ·simp only [Act.put, zq1, zq2, zq3, i64_w]
                     rfl
                    refine pure_ (i := 27) (N := some 82) (v := ?_) (a' := ?_) #[true, true, true, true, true, false, false, false, false, true, true, true, true, false, false, false, false, false, true, true, true, true, false, false, true, true, true, true, false, false, false, false, false, false] rfl rfl (any_of HT_.out (by kernel_rfl)) (fun _ _ _ h => h) (Or.inl ⟨by rfl, ?_⟩) ?_ ?_
                    rotate_left
                    ·intro w'
                     go_simp
                     with_reducible rfl
                    rotate_left
                    ·simp only [Act.put, zq1, zq2, zq3, i64_w]
                     rfl
                    refine take_ (i := 5) (N := some 60) (v := ?_) (a' := ?_) #[true, true, true, true, true, true, false, false, false, true, true, true, true, false, false, false, false, false, true, true, true, true, false, false, true, true, true, true, false, false, false, false, false, false] rfl rfl (take_ofW HT_.out HW_.out (by kernel_rfl)) (fun _ _ _ h => h) (Or.inl ⟨by rfl, ?_⟩) hHeld ?_ ?_
                    rotate_left
                    ·rintro w' ⟨s0, s1, s2, s3, s4, s5, s6, s7⟩
                     go_simp
                     with_reducible rfl
                    rotate_left
                    ·simp only [Act.put, zq1, zq2, zq3, i64_w]
                     rfl
                    refine pure_ (i := 6) (N := some 61) (v := ?_) (a' := ?_) #[true, true, true, true, true, true, true, false, false, true, true, true, true, false, false, false, false, false, true, true, true, true, false, false, true, true, true, true, false, false, false, false, false, false] rfl rfl (any_of HT_.out (by kernel_rfl)) (fun _ _ _ h => h) (Or.inl ⟨by rfl, ?_⟩) ?_ ?_
                    rotate_left
                    ·intro w'
                     go_simp
                     with_reducible rfl
                    rotate_left
                    ·simp only [Act.put, zq1, zq2, zq3, i64_w]
                     rfl
                    refine take_ (i := 13) (N := some 68) (v := ?_) (a' := ?_) #[true, true, true, true, true, true, true, false, false, true, true, true, true, true, false, false, false, false, true, true, true, true, false, false, true, true, true, true, false, false, false, false, false, false] rfl rfl (take_ofW HT_.out HW_.out (by kernel_rfl)) (fun _ _ _ h => h) (Or.inl ⟨by rfl, ?_⟩) hHeld ?_ ?_
                    rotate_left
                    ·rintro w' ⟨s0, s1, s2, s3, s4, s5, s6, s7⟩
                     go_simp
                     with_reducible rfl
                    rotate_left
                    ·simp only [Act.put, zq1, zq2, zq3, i64_w]
                     rfl
                    refine pure_ (i := 14) (N := some 69) (v := ?_) (a' := ?_) #[true, true, true, true, true, true, true, false, false, true, true, true, true, true, true, false, false, false, true, true, true, true, false, false, true, true, true, true, false, false, false, false, false, false] rfl rfl (any_of HT_.out (by kernel_rfl)) (fun _ _ _ h => h) (Or.inl ⟨by rfl, ?_⟩) ?_ ?_
                    rotate_left
                    ·intro w'
                     go_simp
                     with_reducible rfl
                    rotate_left
                    ·simp only [Act.put, zq1, zq2, zq3, i64_w]
                     rfl
                    refine pure_ (i := 15) (N := some 70) (v := ?_) (a' := ?_) #[true, true, true, true, true, true, true, false, false, true, true, true, true, true, true, true, false, false, true, true, true, true, false, false, true, true, true, true, false, false, false, false, false, false] rfl rfl (any_of HT_.out (by kernel_rfl)) (fun _ _ _ h => h) (Or.inl ⟨by rfl, ?_⟩) ?_ ?_
                    rotate_left
                    ·intro w'
                     go_simp
                     with_reducible rfl
                    rotate_left
                    ·simp only [Act.put, zq1, zq2, zq3, i64_w]
                     rfl
                    refine take_ (i := 22) (N := some 77) (v := ?_) (a' := ?_) #[true, true, true, true, true, true, true, false, false, true, true, true, true, true, true, true, false, false, true, true, true, true, true, false, true, true, true, true, false, false, false, false, false, false] rfl rfl (take_ofW HT_.out HW_.out (by kernel_rfl)) (fun _ _ _ h => h) (Or.inl ⟨by rfl, ?_⟩) hHeld ?_ ?_
                    rotate_left
                    ·rintro w' ⟨s0, s1, s2, s3, s4, s5, s6, s7⟩
                     go_simp
                     with_reducible rfl
                    rotate_left
                    ·simp only [Act.put, zq1, zq2, zq3, i64_w]
                     rfl
                    refine take_ (i := 28) (N := some 83) (v := ?_) (a' := ?_) #[true, true, true, true, true, true, true, false, false, true, true, true, true, true, true, true, false, false, true, true, true, true, true, false, true, true, true, true, true, false, false, false, false, false] rfl rfl (take_ofW HT_.out HW_.out (by kernel_rfl)) (fun _ _ _ h => h) (Or.inl ⟨by rfl, ?_⟩) hHeld ?_ ?_
                    rotate_left
                    ·rintro w' ⟨s0, s1, s2, s3, s4, s5, s6, s7⟩
                     go_simp
                     with_reducible rfl
                    rotate_left
                    ·simp only [Act.put, zq1, zq2, zq3, i64_w]
                     rfl
                    refine join_ (σ := Value) 3 #[true, true, true, true, true, true, true, true, true, true, true, true, true, true, true, true, true, true, true, true, true, true, true, true, true, true, true, true, true, true, true, false, false, false] (fun s_ => [(62, s_), (63, .string (strOfNums y232)), (71, .string t236), (84, .int .u32 t239), (85, .string t240), (72, .string ((strOfNums y232) ++ t236)), (78, .string (((strOfNums y232) ++ t236) ++ ((rd_T52 l2 x9_2).f1)))]) (fun s_ w' => (w'.cell? (ad230.add ((x9_2).toNat * 2)) = some (.int .i64 ((rd_T52 l2 x9_2).f0)) ∧ w'.cell? ⟨(ad230.add ((x9_2).toNat * 2)).block, (ad230.add ((x9_2).toNat * 2)).off + 1, none⟩ = some (.string ((rd_T52 l2 x9_2).f1)) ∧ w'.cell? (ad230.add ((x9_2).toNat * 2)) = some (.int .i64 ((rd_T52 l2 x9_2).f0)) ∧ w'.cell? ⟨(ad230.add ((x9_2).toNat * 2)).block, (ad230.add ((x9_2).toNat * 2)).off + 1, none⟩ = some (.string ((rd_T52 l2 x9_2).f1)) ∧ w'.cell? (ad230.add ((x9_2).toNat * 2)) = some (.int .i64 ((rd_T52 l2 x9_2).f0)) ∧ w'.cell? ⟨(ad230.add ((x9_2).toNat * 2)).block, (ad230.add ((x9_2).toNat * 2)).off + 1, none⟩ = some (.string ((rd_T52 l2 x9_2).f1)) ∧ w'.cell? (ad230.add ((x9_2).toNat * 2)) = some (.int .i64 ((rd_T52 l2 x9_2).f0)) ∧ w'.cell? ⟨(ad230.add ((x9_2).toNat * 2)).block, (ad230.add ((x9_2).toNat * 2)).off + 1, none⟩ = some (.string ((rd_T52 l2 x9_2).f1))) ∧ (Kd.R (Kd.int .u8) 5 w' w.heap.size (fun _ => True) s_ y232) ∧ (Below w.heap.size w w')) ?_ ?_
                    rotate_left
                    ·intro hJ7_8_16_29_30
                     refine join_ (σ := Value) 4 #[true, true, true, true, true, true, true, true, true, true, true, true, true, true, true, true, true, true, true, true, true, true, true, true, true, true, true, true, true, true, false, false, false, false] (fun s_ => [(62, s_), (63, .string (strOfNums y232)), (71, .string t236), (84, .int .u32 t239), (72, .string ((strOfNums y232) ++ t236)), (78, .string (((strOfNums y232) ++ t236) ++ ((rd_T52 l2 x9_2).f1)))]) (fun s_ w' => (w'.cell? (ad230.add ((x9_2).toNat * 2)) = some (.int .i64 ((rd_T52 l2 x9_2).f0)) ∧ w'.cell? ⟨(ad230.add ((x9_2).toNat * 2)).block, (ad230.add ((x9_2).toNat * 2)).off + 1, none⟩ = some (.string ((rd_T52 l2 x9_2).f1)) ∧ w'.cell? (ad230.add ((x9_2).toNat * 2)) = some (.int .i64 ((rd_T52 l2 x9_2).f0)) ∧ w'.cell? ⟨(ad230.add ((x9_2).toNat * 2)).block, (ad230.add ((x9_2).toNat * 2)).off + 1, none⟩ = some (.string ((rd_T52 l2 x9_2).f1)) ∧ w'.cell? (ad230.add ((x9_2).toNat * 2)) = some (.int .i64 ((rd_T52 l2 x9_2).f0)) ∧ w'.cell? ⟨(ad230.add ((x9_2).toNat * 2)).block, (ad230.add ((x9_2).toNat * 2)).off + 1, none⟩ = some (.string ((rd_T52 l2 x9_2).f1)) ∧ w'.cell? (ad230.add ((x9_2).toNat * 2)) = some (.int .i64 ((rd_T52 l2 x9_2).f0)) ∧ w'.cell? ⟨(ad230.add ((x9_2).toNat * 2)).block, (ad230.add ((x9_2).toNat * 2)).off + 1, none⟩ = some (.string ((rd_T52 l2 x9_2).f1))) ∧ (Kd.R (Kd.int .u8) 5 w' w.heap.size (fun _ => True) s_ y232) ∧ (Below w.heap.size w w')) ?_ ?_
                     rotate_left
                     ·intro hJ7_8_16_29
                      refine join_ (σ := Value) 6 #[true, true, true, true, true, true, true, true, false, true, true, true, true, true, true, true, true, false, true, true, true, true, true, false, true, true, true, true, true, true, true, false, false, false] (fun s_ => [(62, s_), (71, .string t236), (84, .int .u32 t239), (85, .string t240)]) (fun s_ w' => (w'.cell? (ad230.add ((x9_2).toNat * 2)) = some (.int .i64 ((rd_T52 l2 x9_2).f0)) ∧ w'.cell? ⟨(ad230.add ((x9_2).toNat * 2)).block, (ad230.add ((x9_2).toNat * 2)).off + 1, none⟩ = some (.string ((rd_T52 l2 x9_2).f1)) ∧ w'.cell? (ad230.add ((x9_2).toNat * 2)) = some (.int .i64 ((rd_T52 l2 x9_2).f0)) ∧ w'.cell? ⟨(ad230.add ((x9_2).toNat * 2)).block, (ad230.add ((x9_2).toNat * 2)).off + 1, none⟩ = some (.string ((rd_T52 l2 x9_2).f1)) ∧ w'.cell? (ad230.add ((x9_2).toNat * 2)) = some (.int .i64 ((rd_T52 l2 x9_2).f0)) ∧ w'.cell? ⟨(ad230.add ((x9_2).toNat * 2)).block, (ad230.add ((x9_2).toNat * 2)).off + 1, none⟩ = some (.string ((rd_T52 l2 x9_2).f1)) ∧ w'.cell? (ad230.add ((x9_2).toNat * 2)) = some (.int .i64 ((rd_T52 l2 x9_2).f0)) ∧ w'.cell? ⟨(ad230.add ((x9_2).toNat * 2)).block, (ad230.add ((x9_2).toNat * 2)).off + 1, none⟩ = some (.string ((rd_T52 l2 x9_2).f1))) ∧ (Kd.R (Kd.int .u8) 5 w' w.heap.size (fun _ => True) s_ y232) ∧ (Below w.heap.size w w')) ?_ ?_
                      rotate_left
                      ·intro hJ7_16_29_30
                       refine join_ (σ := Value) 5 #[true, true, true, true, true, true, true, true, true, true, true, true, true, true, true, true, true, true, true, true, true, true, true, true, true, true, true, true, true, false, false, false, false, false] (fun s_ => [(62, s_), (63, .string (strOfNums y232)), (71, .string t236), (72, .string ((strOfNums y232) ++ t236)), (78, .string (((strOfNums y232) ++ t236) ++ ((rd_T52 l2 x9_2).f1)))]) (fun s_ w' => (w'.cell? (ad230.add ((x9_2).toNat * 2)) = some (.int .i64 ((rd_T52 l2 x9_2).f0)) ∧ w'.cell? ⟨(ad230.add ((x9_2).toNat * 2)).block, (ad230.add ((x9_2).toNat * 2)).off + 1, none⟩ = some (.string ((rd_T52 l2 x9_2).f1)) ∧ w'.cell? (ad230.add ((x9_2).toNat * 2)) = some (.int .i64 ((rd_T52 l2 x9_2).f0)) ∧ w'.cell? ⟨(ad230.add ((x9_2).toNat * 2)).block, (ad230.add ((x9_2).toNat * 2)).off + 1, none⟩ = some (.string ((rd_T52 l2 x9_2).f1)) ∧ w'.cell? (ad230.add ((x9_2).toNat * 2)) = some (.int .i64 ((rd_T52 l2 x9_2).f0)) ∧ w'.cell? ⟨(ad230.add ((x9_2).toNat * 2)).block, (ad230.add ((x9_2).toNat * 2)).off + 1, none⟩ = some (.string ((rd_T52 l2 x9_2).f1)) ∧ w'.cell? (ad230.add ((x9_2).toNat * 2)) = some (.int .i64 ((rd_T52 l2 x9_2).f0)) ∧ w'.cell? ⟨(ad230.add ((x9_2).toNat * 2)).block, (ad230.add ((x9_2).toNat * 2)).off + 1, none⟩ = some (.string ((rd_T52 l2 x9_2).f1))) ∧ (Kd.R (Kd.int .u8) 5 w' w.heap.size (fun _ => True) s_ y232) ∧ (Below w.heap.size w w')) ?_ ?_
                       rotate_left
                       ·intro hJ7_8_16
                        refine join_ (σ := Value) 7 #[true, true, true, true, true, true, true, true, false, true, true, true, true, true, true, true, true, false, true, true, true, true, true, false, true, true, true, true, true, true, false, false, false, false] (fun s_ => [(62, s_), (71, .string t236), (84, .int .u32 t239)]) (fun s_ w' => (w'.cell? (ad230.add ((x9_2).toNat * 2)) = some (.int .i64 ((rd_T52 l2 x9_2).f0)) ∧ w'.cell? ⟨(ad230.add ((x9_2).toNat * 2)).block, (ad230.add ((x9_2).toNat * 2)).off + 1, none⟩ = some (.string ((rd_T52 l2 x9_2).f1)) ∧ w'.cell? (ad230.add ((x9_2).toNat * 2)) = some (.int .i64 ((rd_T52 l2 x9_2).f0)) ∧ w'.cell? ⟨(ad230.add ((x9_2).toNat * 2)).block, (ad230.add ((x9_2).toNat * 2)).off + 1, none⟩ = some (.string ((rd_T52 l2 x9_2).f1)) ∧ w'.cell? (ad230.add ((x9_2).toNat * 2)) = some (.int .i64 ((rd_T52 l2 x9_2).f0)) ∧ w'.cell? ⟨(ad230.add ((x9_2).toNat * 2)).block, (ad230.add ((x9_2).toNat * 2)).off + 1, none⟩ = some (.string ((rd_T52 l2 x9_2).f1)) ∧ w'.cell? (ad230.add ((x9_2).toNat * 2)) = some (.int .i64 ((rd_T52 l2 x9_2).f0)) ∧ w'.cell? ⟨(ad230.add ((x9_2).toNat * 2)).block, (ad230.add ((x9_2).toNat * 2)).off + 1, none⟩ = some (.string ((rd_T52 l2 x9_2).f1))) ∧ (Kd.R (Kd.int .u8) 5 w' w.heap.size (fun _ => True) s_ y232) ∧ (Below w.heap.size w w')) ?_ ?_
                        rotate_left
                        ·intro hJ7_16_29
                         refine join_ (σ := Unit) 7 #[true, true, true, true, true, true, true, false, false, true, true, true, true, true, true, true, true, false, true, true, true, true, true, false, true, true, true, true, true, true, true, false, false, false] (fun s_ => [(71, .string t236), (84, .int .u32 t239), (85, .string t240)]) (fun s_ w' => (w'.cell? (ad230.add ((x9_2).toNat * 2)) = some (.int .i64 ((rd_T52 l2 x9_2).f0)) ∧ w'.cell? ⟨(ad230.add ((x9_2).toNat * 2)).block, (ad230.add ((x9_2).toNat * 2)).off + 1, none⟩ = some (.string ((rd_T52 l2 x9_2).f1)) ∧ w'.cell? (ad230.add ((x9_2).toNat * 2)) = some (.int .i64 ((rd_T52 l2 x9_2).f0)) ∧ w'.cell? ⟨(ad230.add ((x9_2).toNat * 2)).block, (ad230.add ((x9_2).toNat * 2)).off + 1, none⟩ = some (.string ((rd_T52 l2 x9_2).f1)) ∧ w'.cell? (ad230.add ((x9_2).toNat * 2)) = some (.int .i64 ((rd_T52 l2 x9_2).f0)) ∧ w'.cell? ⟨(ad230.add ((x9_2).toNat * 2)).block, (ad230.add ((x9_2).toNat * 2)).off + 1, none⟩ = some (.string ((rd_T52 l2 x9_2).f1)) ∧ w'.cell? (ad230.add ((x9_2).toNat * 2)) = some (.int .i64 ((rd_T52 l2 x9_2).f0)) ∧ w'.cell? ⟨(ad230.add ((x9_2).toNat * 2)).block, (ad230.add ((x9_2).toNat * 2)).off + 1, none⟩ = some (.string ((rd_T52 l2 x9_2).f1))) ∧ (Below w.heap.size w w')) ?_ ?_
                         rotate_left
                         ·intro hJ16_29_30
                          refine join_ (σ := Value) 8 #[true, true, true, true, true, true, true, true, true, true, true, true, true, true, true, true, false, false, true, true, true, true, true, false, true, true, true, true, true, false, false, false, false, false] (fun s_ => [(62, s_), (63, .string (strOfNums y232))]) (fun s_ w' => (w'.cell? (ad230.add ((x9_2).toNat * 2)) = some (.int .i64 ((rd_T52 l2 x9_2).f0)) ∧ w'.cell? ⟨(ad230.add ((x9_2).toNat * 2)).block, (ad230.add ((x9_2).toNat * 2)).off + 1, none⟩ = some (.string ((rd_T52 l2 x9_2).f1)) ∧ w'.cell? (ad230.add ((x9_2).toNat * 2)) = some (.int .i64 ((rd_T52 l2 x9_2).f0)) ∧ w'.cell? ⟨(ad230.add ((x9_2).toNat * 2)).block, (ad230.add ((x9_2).toNat * 2)).off + 1, none⟩ = some (.string ((rd_T52 l2 x9_2).f1)) ∧ w'.cell? (ad230.add ((x9_2).toNat * 2)) = some (.int .i64 ((rd_T52 l2 x9_2).f0)) ∧ w'.cell? ⟨(ad230.add ((x9_2).toNat * 2)).block, (ad230.add ((x9_2).toNat * 2)).off + 1, none⟩ = some (.string ((rd_T52 l2 x9_2).f1)) ∧ w'.cell? (ad230.add ((x9_2).toNat * 2)) = some (.int .i64 ((rd_T52 l2 x9_2).f0)) ∧ w'.cell? ⟨(ad230.add ((x9_2).toNat * 2)).block, (ad230.add ((x9_2).toNat * 2)).off + 1, none⟩ = some (.string ((rd_T52 l2 x9_2).f1))) ∧ (Kd.R (Kd.int .u8) 5 w' w.heap.size (fun _ => True) s_ y232) ∧ (Below w.heap.size w w')) ?_ ?_
                          rotate_left
                          ·intro hJ7_8
                           refine join_ (σ := Value) 8 #[true, true, true, true, true, true, true, true, false, true, true, true, true, true, true, true, true, false, true, true, true, true, true, false, true, true, true, true, true, false, false, false, false, false] (fun s_ => [(62, s_), (71, .string t236)]) (fun s_ w' => (w'.cell? (ad230.add ((x9_2).toNat * 2)) = some (.int .i64 ((rd_T52 l2 x9_2).f0)) ∧ w'.cell? ⟨(ad230.add ((x9_2).toNat * 2)).block, (ad230.add ((x9_2).toNat * 2)).off + 1, none⟩ = some (.string ((rd_T52 l2 x9_2).f1)) ∧ w'.cell? (ad230.add ((x9_2).toNat * 2)) = some (.int .i64 ((rd_T52 l2 x9_2).f0)) ∧ w'.cell? ⟨(ad230.add ((x9_2).toNat * 2)).block, (ad230.add ((x9_2).toNat * 2)).off + 1, none⟩ = some (.string ((rd_T52 l2 x9_2).f1)) ∧ w'.cell? (ad230.add ((x9_2).toNat * 2)) = some (.int .i64 ((rd_T52 l2 x9_2).f0)) ∧ w'.cell? ⟨(ad230.add ((x9_2).toNat * 2)).block, (ad230.add ((x9_2).toNat * 2)).off + 1, none⟩ = some (.string ((rd_T52 l2 x9_2).f1)) ∧ w'.cell? (ad230.add ((x9_2).toNat * 2)) = some (.int .i64 ((rd_T52 l2 x9_2).f0)) ∧ w'.cell? ⟨(ad230.add ((x9_2).toNat * 2)).block, (ad230.add ((x9_2).toNat * 2)).off + 1, none⟩ = some (.string ((rd_T52 l2 x9_2).f1))) ∧ (Kd.R (Kd.int .u8) 5 w' w.heap.size (fun _ => True) s_ y232) ∧ (Below w.heap.size w w')) ?_ ?_
                           rotate_left
                           ·intro hJ7_16
                            refine join_ (σ := Unit) 8 #[true, true, true, true, true, true, true, false, false, true, true, true, true, true, true, true, true, false, true, true, true, true, true, false, true, true, true, true, true, true, false, false, false, false] (fun s_ => [(71, .string t236), (84, .int .u32 t239)]) (fun s_ w' => (w'.cell? (ad230.add ((x9_2).toNat * 2)) = some (.int .i64 ((rd_T52 l2 x9_2).f0)) ∧ w'.cell? ⟨(ad230.add ((x9_2).toNat * 2)).block, (ad230.add ((x9_2).toNat * 2)).off + 1, none⟩ = some (.string ((rd_T52 l2 x9_2).f1)) ∧ w'.cell? (ad230.add ((x9_2).toNat * 2)) = some (.int .i64 ((rd_T52 l2 x9_2).f0)) ∧ w'.cell? ⟨(ad230.add ((x9_2).toNat * 2)).block, (ad230.add ((x9_2).toNat * 2)).off + 1, none⟩ = some (.string ((rd_T52 l2 x9_2).f1)) ∧ w'.cell? (ad230.add ((x9_2).toNat * 2)) = some (.int .i64 ((rd_T52 l2 x9_2).f0)) ∧ w'.cell? ⟨(ad230.add ((x9_2).toNat * 2)).block, (ad230.add ((x9_2).toNat * 2)).off + 1, none⟩ = some (.string ((rd_T52 l2 x9_2).f1)) ∧ w'.cell? (ad230.add ((x9_2).toNat * 2)) = some (.int .i64 ((rd_T52 l2 x9_2).f0)) ∧ w'.cell? ⟨(ad230.add ((x9_2).toNat * 2)).block, (ad230.add ((x9_2).toNat * 2)).off + 1, none⟩ = some (.string ((rd_T52 l2 x9_2).f1))) ∧ (Below w.heap.size w w')) ?_ ?_
                            rotate_left
                            ·intro hJ16_29
                             refine join_ (σ := Value) 9 #[true, true, true, true, true, true, true, true, false, true, true, true, true, true, true, true, false, false, true, true, true, true, true, false, true, true, true, true, true, false, false, false, false, false] (fun s_ => [(62, s_)]) (fun s_ w' => (w'.cell? (ad230.add ((x9_2).toNat * 2)) = some (.int .i64 ((rd_T52 l2 x9_2).f0)) ∧ w'.cell? ⟨(ad230.add ((x9_2).toNat * 2)).block, (ad230.add ((x9_2).toNat * 2)).off + 1, none⟩ = some (.string ((rd_T52 l2 x9_2).f1)) ∧ w'.cell? (ad230.add ((x9_2).toNat * 2)) = some (.int .i64 ((rd_T52 l2 x9_2).f0)) ∧ w'.cell? ⟨(ad230.add ((x9_2).toNat * 2)).block, (ad230.add ((x9_2).toNat * 2)).off + 1, none⟩ = some (.string ((rd_T52 l2 x9_2).f1)) ∧ w'.cell? (ad230.add ((x9_2).toNat * 2)) = some (.int .i64 ((rd_T52 l2 x9_2).f0)) ∧ w'.cell? ⟨(ad230.add ((x9_2).toNat * 2)).block, (ad230.add ((x9_2).toNat * 2)).off + 1, none⟩ = some (.string ((rd_T52 l2 x9_2).f1)) ∧ w'.cell? (ad230.add ((x9_2).toNat * 2)) = some (.int .i64 ((rd_T52 l2 x9_2).f0)) ∧ w'.cell? ⟨(ad230.add ((x9_2).toNat * 2)).block, (ad230.add ((x9_2).toNat * 2)).off + 1, none⟩ = some (.string ((rd_T52 l2 x9_2).f1))) ∧ (Kd.R (Kd.int .u8) 5 w' w.heap.size (fun _ => True) s_ y232) ∧ (Below w.heap.size w w')) ?_ ?_
                             rotate_left
                             ·intro hJ7
                              refine join_ (σ := Unit) 9 #[true, true, true, true, true, true, true, false, false, true, true, true, true, true, true, true, true, false, true, true, true, true, true, false, true, true, true, true, true, false, false, false, false, false] (fun s_ => [(71, .string t236)]) (fun s_ w' => (w'.cell? (ad230.add ((x9_2).toNat * 2)) = some (.int .i64 ((rd_T52 l2 x9_2).f0)) ∧ w'.cell? ⟨(ad230.add ((x9_2).toNat * 2)).block, (ad230.add ((x9_2).toNat * 2)).off + 1, none⟩ = some (.string ((rd_T52 l2 x9_2).f1)) ∧ w'.cell? (ad230.add ((x9_2).toNat * 2)) = some (.int .i64 ((rd_T52 l2 x9_2).f0)) ∧ w'.cell? ⟨(ad230.add ((x9_2).toNat * 2)).block, (ad230.add ((x9_2).toNat * 2)).off + 1, none⟩ = some (.string ((rd_T52 l2 x9_2).f1)) ∧ w'.cell? (ad230.add ((x9_2).toNat * 2)) = some (.int .i64 ((rd_T52 l2 x9_2).f0)) ∧ w'.cell? ⟨(ad230.add ((x9_2).toNat * 2)).block, (ad230.add ((x9_2).toNat * 2)).off + 1, none⟩ = some (.string ((rd_T52 l2 x9_2).f1)) ∧ w'.cell? (ad230.add ((x9_2).toNat * 2)) = some (.int .i64 ((rd_T52 l2 x9_2).f0)) ∧ w'.cell? ⟨(ad230.add ((x9_2).toNat * 2)).block, (ad230.add ((x9_2).toNat * 2)).off + 1, none⟩ = some (.string ((rd_T52 l2 x9_2).f1))) ∧ (Below w.heap.size w w')) ?_ ?_
                              rotate_left
                              ·intro hJ16
                               refine two_ (i := 7) (j := 16) (Ni := some 62) (Nj := some 71) #[true, true, true, true, true, true, true, true, false, true, true, true, true, true, true, true, false, false, true, true, true, true, true, false, true, true, true, true, true, false, false, false, false, false] #[true, true, true, true, true, true, true, false, false, true, true, true, true, true, true, true, true, false, true, true, true, true, true, false, true, true, true, true, true, false, false, false, false, false] rfl rfl rfl rfl (two_of HT_.out (by kernel_rfl)) (by decide) (by decide) (fun K hK => ?_) (fun K hK => ?_)
                               ·skip
                                refine Kd.R_lit_step (Kd.int .u8) _ 5 ?hg (N := 62) ?hd (xs := ([((rd_T52 l2 x9_2).f0) % 256] : List Int)) (inner := [.int .u8 (((rd_T52 l2 x9_2).f0) % 256)]) (ok := fun _ => True) (okp := fun _ => True) ?hr ?hp (fun _ hk => hk) trivial (Below.refl _ _) (Nat.le_refl _) (by simp) ?_; (case hd => rfl); (case hg => rfl); (case hr => first | (go_simp; done) | (go_simp; rfl)); (case hp => exact (Reps.one (show Kd.M (Kd.int .u8) _ _ _ (((rd_T52 l2 x9_2).f0) % 256) [.int .u8 (((rd_T52 l2 x9_2).f0) % 256)] from rfl) (Reps.none _ _)))
                                intro v233 w29 ho30 hb hg_ hnew_
                                clear hg_ hnew_
                                (first | rw [← Ny232.out] at ho30 | (simp only [Int.reduceToNat] at ho30; rw [← Ny232.out] at ho30))
                                have n0_ := Aside0.mk (Kd.R_lower ho30 (below_size (by repeat (first | (with_reducible first | exact HB.out | apply below_alloc | apply pw_below_drewN | apply below_drew1) | exact HB.out))))
                                have n1_ := Aside0.mk (below_step (by repeat (first | (with_reducible first | exact HB.out | apply below_alloc | apply pw_below_drewN | apply below_drew1) | exact HB.out)) hb)
                                clear HB
                                have HO234 := n0_
                                have HB := n1_
                                clear n0_ n1_
                                clear hb ho30
                                refine hK.out _ _ ⟨(kpz HB.out hw231_0), (kpz HB.out hw231_1), (kpz HB.out hw235_0), (kpz HB.out hw235_1), (kpz HB.out hw237_0), (kpz HB.out hw237_1), (kpz HB.out hw238_0), (kpz HB.out hw238_1)⟩ (fun hHeld => ?_)
                                clear hK K
                                refine norm_ (a' := ?_) ?_ ?_
                                rotate_left
                                ·show Act.put _ (some 62) _ = _
                                 simp only [Act.put, zq1, zq2, zq3, i64_w]
                                 rfl
                                exact norm_ (by first | (simp only [putAll, Act.put, zq1, zq2, zq3]; done) | (simp only [putAll, Act.put, zq1, zq2, zq3]; rfl)) (hJ7 (v233) _ ⟨hHeld, (by (with_reducible repeat (first | apply Kd.R_alloc | apply Kd.R_drewN | apply Kd.R_drew)); exact HO234.out), (by repeat (first | (with_reducible first | exact HB.out | apply below_alloc | apply pw_below_drewN | apply below_drew1) | exact HB.out))⟩)
                               ·skip
                                refine goes_ Try.func48 (by kernel_rfl) rfl #[.int .u64 (IntKind.u64.wrap ((((rd_T52 l2 x9_2).f1).size : Int)))] (by rfl) rfl rfl (by (try simp only [List.map_toArray, List.map_cons, List.map_nil]); first | done | rfl | (simp only [List.length_drop, List.length_take]; rfl)) ?_
                                with_reducible refine (dioramaref01_Put.calls kj13 (IntKind.u64.wrap ((((rd_T52 l2 x9_2).f1).size : Int))) t236 _ A21.out).mono ?_
                                rintro e w29 ⟨rfl, hb⟩
                                refine ⟨_, rfl, ?_⟩
                                have n0_ := Aside0.mk (below_step (by repeat (first | (with_reducible first | exact HB.out | apply below_alloc | apply pw_below_drewN | apply below_drew1) | exact HB.out)) hb)
                                clear HB
                                have HB := n0_
                                clear n0_
                                (try clear hb)
                                (try clear hb2)
                                (try clear hk)
                                (try clear hi)
                                refine hK.out _ _ ⟨(kpz HB.out hw231_0), (kpz HB.out hw231_1), (kpz HB.out hw235_0), (kpz HB.out hw235_1), (kpz HB.out hw237_0), (kpz HB.out hw237_1), (kpz HB.out hw238_0), (kpz HB.out hw238_1)⟩ (fun hHeld => ?_)
                                clear hK K
                                refine norm_ (a' := ?_) ?_ ?_
                                rotate_left
                                ·show Act.put _ (some 71) _ = _
                                 simp only [Act.put, zq1, zq2, zq3, i64_w]
                                 rfl
                                exact norm_ (by first | (simp only [putAll, Act.put, zq1, zq2, zq3]; done) | (simp only [putAll, Act.put, zq1, zq2, zq3]; rfl)) (hJ16 () _ ⟨hHeld, (by repeat (first | (with_reducible first | exact HB.out | apply below_alloc | apply pw_below_drewN | apply below_drew1) | exact HB.out))⟩)
                              ·skip
                               rintro _ w30 ⟨hS_, h0_⟩
                               have n0_ : Aside0 (Below w.heap.size w w30) := ⟨h0_⟩
                               clear HB
                               clear h0_
                               have HB := n0_
                               clear n0_
                               have hHeld : w30.cell? (ad230.add ((x9_2).toNat * 2)) = some (.int .i64 ((rd_T52 l2 x9_2).f0)) ∧ w30.cell? ⟨(ad230.add ((x9_2).toNat * 2)).block, (ad230.add ((x9_2).toNat * 2)).off + 1, none⟩ = some (.string ((rd_T52 l2 x9_2).f1)) ∧ w30.cell? (ad230.add ((x9_2).toNat * 2)) = some (.int .i64 ((rd_T52 l2 x9_2).f0)) ∧ w30.cell? ⟨(ad230.add ((x9_2).toNat * 2)).block, (ad230.add ((x9_2).toNat * 2)).off + 1, none⟩ = some (.string ((rd_T52 l2 x9_2).f1)) ∧ w30.cell? (ad230.add ((x9_2).toNat * 2)) = some (.int .i64 ((rd_T52 l2 x9_2).f0)) ∧ w30.cell? ⟨(ad230.add ((x9_2).toNat * 2)).block, (ad230.add ((x9_2).toNat * 2)).off + 1, none⟩ = some (.string ((rd_T52 l2 x9_2).f1)) ∧ w30.cell? (ad230.add ((x9_2).toNat * 2)) = some (.int .i64 ((rd_T52 l2 x9_2).f0)) ∧ w30.cell? ⟨(ad230.add ((x9_2).toNat * 2)).block, (ad230.add ((x9_2).toNat * 2)).off + 1, none⟩ = some (.string ((rd_T52 l2 x9_2).f1)) := hS_
                               refine norm_ (a' := ?_) ?_ ?_
                               rotate_left
                               ·simp only [putAll, Act.put, zq1, zq2, zq3]
                                rfl
                               refine two_ (i := 7) (j := 29) (Ni := some 62) (Nj := some 84) #[true, true, true, true, true, true, true, true, false, true, true, true, true, true, true, true, true, false, true, true, true, true, true, false, true, true, true, true, true, false, false, false, false, false] #[true, true, true, true, true, true, true, false, false, true, true, true, true, true, true, true, true, false, true, true, true, true, true, false, true, true, true, true, true, true, false, false, false, false] rfl rfl rfl rfl (two_of HT_.out (by kernel_rfl)) (by decide) (by decide) (fun K hK => ?_) (fun K hK => ?_)
                               ·skip
                                refine Kd.R_lit_step (Kd.int .u8) _ 5 ?hg (N := 62) ?hd (xs := ([((rd_T52 l2 x9_2).f0) % 256] : List Int)) (inner := [.int .u8 (((rd_T52 l2 x9_2).f0) % 256)]) (ok := fun _ => True) (okp := fun _ => True) ?hr ?hp (fun _ hk => hk) trivial (Below.refl _ _) (Nat.le_refl _) (by simp) ?_; (case hd => rfl); (case hg => rfl); (case hr => first | (go_simp; done) | (go_simp; rfl)); (case hp => exact (Reps.one (show Kd.M (Kd.int .u8) _ _ _ (((rd_T52 l2 x9_2).f0) % 256) [.int .u8 (((rd_T52 l2 x9_2).f0) % 256)] from rfl) (Reps.none _ _)))
                                intro v233 w31 ho32 hb hg_ hnew_
                                clear hg_ hnew_
                                (first | rw [← Ny232.out] at ho32 | (simp only [Int.reduceToNat] at ho32; rw [← Ny232.out] at ho32))
                                have n0_ := Aside0.mk (Kd.R_lower ho32 (below_size (by repeat (first | (with_reducible first | exact HB.out | apply below_alloc | apply pw_below_drewN | apply below_drew1) | exact HB.out))))
                                have n1_ := Aside0.mk (below_step (by repeat (first | (with_reducible first | exact HB.out | apply below_alloc | apply pw_below_drewN | apply below_drew1) | exact HB.out)) hb)
                                clear HB
                                have HO234 := n0_
                                have HB := n1_
                                clear n0_ n1_
                                clear hb ho32
                                refine hK.out _ _ ⟨(kpz HB.out hw231_0), (kpz HB.out hw231_1), (kpz HB.out hw235_0), (kpz HB.out hw235_1), (kpz HB.out hw237_0), (kpz HB.out hw237_1), (kpz HB.out hw238_0), (kpz HB.out hw238_1)⟩ (fun hHeld => ?_)
                                clear hK K
                                refine norm_ (a' := ?_) ?_ ?_
                                rotate_left
                                ·show Act.put _ (some 62) _ = _
                                 simp only [Act.put, zq1, zq2, zq3, i64_w]
                                 rfl
                                exact norm_ (by first | (simp only [putAll, Act.put, zq1, zq2, zq3]; done) | (simp only [putAll, Act.put, zq1, zq2, zq3]; rfl)) (hJ7_16 (v233) _ ⟨hHeld, (by (with_reducible repeat (first | apply Kd.R_alloc | apply Kd.R_drewN | apply Kd.R_drew)); exact HO234.out), (by repeat (first | (with_reducible first | exact HB.out | apply below_alloc | apply pw_below_drewN | apply below_drew1) | exact HB.out))⟩)
                               ·skip
                                refine goes_ Try.func21 (by kernel_rfl) rfl #[.string ((rd_T52 l2 x9_2).f1)] (by rfl) rfl rfl (by (try simp only [List.map_toArray, List.map_cons, List.map_nil]); first | done | rfl | (simp only [List.length_drop, List.length_take]; rfl)) ?_
                                with_reducible refine (dioramaref03_Sum.calls kj13 ((rd_T52 l2 x9_2).f1) t239 _ A24.out).mono ?_
                                rintro e w' ⟨rfl, ⟨nd, rfl⟩⟩
                                refine ⟨_, rfl, ?_⟩
                                refine hK.out _ _ ⟨(kpz HB.out hw231_0), (kpz HB.out hw231_1), (kpz HB.out hw235_0), (kpz HB.out hw235_1), (kpz HB.out hw237_0), (kpz HB.out hw237_1), (kpz HB.out hw238_0), (kpz HB.out hw238_1)⟩ (fun hHeld => ?_)
                                clear hK K
                                refine norm_ (a' := ?_) ?_ ?_
                                rotate_left
                                ·show Act.put _ (some 84) _ = _
                                 simp only [Act.put, zq1, zq2, zq3, i64_w]
                                 rfl
                                exact norm_ (by first | (simp only [putAll, Act.put, zq1, zq2, zq3]; done) | (simp only [putAll, Act.put, zq1, zq2, zq3]; rfl)) (hJ16_29 () _ ⟨hHeld, (by repeat (first | (with_reducible first | exact HB.out | apply below_alloc | apply pw_below_drewN | apply below_drew1) | exact HB.out))⟩)
                             ·skip
                              rintro v233 w31 ⟨hS_, h0_, h1_⟩
                              have n0_ : Aside0 (Kd.R (Kd.int .u8) 5 w31 w.heap.size (fun _ => True) v233 y232) := ⟨h0_⟩
                              have n1_ : Aside0 (Below w.heap.size w w31) := ⟨h1_⟩
                              clear HB
                              clear h0_ h1_
                              have HO234 := n0_
                              have HB := n1_
                              clear n0_ n1_
                              have hHeld : w31.cell? (ad230.add ((x9_2).toNat * 2)) = some (.int .i64 ((rd_T52 l2 x9_2).f0)) ∧ w31.cell? ⟨(ad230.add ((x9_2).toNat * 2)).block, (ad230.add ((x9_2).toNat * 2)).off + 1, none⟩ = some (.string ((rd_T52 l2 x9_2).f1)) ∧ w31.cell? (ad230.add ((x9_2).toNat * 2)) = some (.int .i64 ((rd_T52 l2 x9_2).f0)) ∧ w31.cell? ⟨(ad230.add ((x9_2).toNat * 2)).block, (ad230.add ((x9_2).toNat * 2)).off + 1, none⟩ = some (.string ((rd_T52 l2 x9_2).f1)) ∧ w31.cell? (ad230.add ((x9_2).toNat * 2)) = some (.int .i64 ((rd_T52 l2 x9_2).f0)) ∧ w31.cell? ⟨(ad230.add ((x9_2).toNat * 2)).block, (ad230.add ((x9_2).toNat * 2)).off + 1, none⟩ = some (.string ((rd_T52 l2 x9_2).f1)) ∧ w31.cell? (ad230.add ((x9_2).toNat * 2)) = some (.int .i64 ((rd_T52 l2 x9_2).f0)) ∧ w31.cell? ⟨(ad230.add ((x9_2).toNat * 2)).block, (ad230.add ((x9_2).toNat * 2)).off + 1, none⟩ = some (.string ((rd_T52 l2 x9_2).f1)) := hS_
                              refine norm_ (a' := ?_) ?_ ?_
                              rotate_left
                              ·simp only [putAll, Act.put, zq1, zq2, zq3]
                               rfl
                              refine two_ (i := 8) (j := 16) (Ni := some 63) (Nj := some 71) #[true, true, true, true, true, true, true, true, true, true, true, true, true, true, true, true, false, false, true, true, true, true, true, false, true, true, true, true, true, false, false, false, false, false] #[true, true, true, true, true, true, true, true, false, true, true, true, true, true, true, true, true, false, true, true, true, true, true, false, true, true, true, true, true, false, false, false, false, false] rfl rfl rfl rfl (two_of HT_.out (by kernel_rfl)) (by decide) (by decide) (fun K hK => ?_) (fun K hK => ?_)
                              ·skip
                               have hcv32 := own_string (P := Try.prog) Try.underlying72 Try.underlying5 Try.underlying9 (Kd.own_of_R HO234.out)
                               refine value_ (w1 := ?_) (v := ?_) (by rfl) rfl ?_ ?_
                               rotate_left 2
                               ·go_simp
                                constructor
                                ·rfl
                                ·rfl
                               clear hcv32
                               refine hK.out _ _ ⟨(kpz HB.out hw231_0), (kpz HB.out hw231_1), (kpz HB.out hw235_0), (kpz HB.out hw235_1), (kpz HB.out hw237_0), (kpz HB.out hw237_1), (kpz HB.out hw238_0), (kpz HB.out hw238_1)⟩ (fun hHeld => ?_)
                               clear hK K
                               refine norm_ (a' := ?_) ?_ ?_
                               rotate_left
                               ·show Act.put _ (some 63) _ = _
                                simp only [Act.put, zq1, zq2, zq3, i64_w]
                                rfl
                               exact norm_ (by first | (simp only [putAll, Act.put, zq1, zq2, zq3]; done) | (simp only [putAll, Act.put, zq1, zq2, zq3]; rfl)) (hJ7_8 (v233) _ ⟨hHeld, (by (with_reducible repeat (first | apply Kd.R_alloc | apply Kd.R_drewN | apply Kd.R_drew)); exact HO234.out), (by repeat (first | (with_reducible first | exact HB.out | apply below_alloc | apply pw_below_drewN | apply below_drew1) | exact HB.out))⟩)
                              ·skip
                               refine goes_ Try.func48 (by kernel_rfl) rfl #[.int .u64 (IntKind.u64.wrap ((((rd_T52 l2 x9_2).f1).size : Int)))] (by rfl) rfl rfl (by (try simp only [List.map_toArray, List.map_cons, List.map_nil]); first | done | rfl | (simp only [List.length_drop, List.length_take]; rfl)) ?_
                               with_reducible refine (dioramaref01_Put.calls kj13 (IntKind.u64.wrap ((((rd_T52 l2 x9_2).f1).size : Int))) t236 _ A21.out).mono ?_
                               rintro e w32 ⟨rfl, hb⟩
                               refine ⟨_, rfl, ?_⟩
                               have n0_ := Aside0.mk (Kd.R_below (by (with_reducible repeat (first | apply Kd.R_alloc | apply Kd.R_drewN | apply Kd.R_drew)); exact HO234.out) hb)
                               have n1_ := Aside0.mk (below_step (by repeat (first | (with_reducible first | exact HB.out | apply below_alloc | apply pw_below_drewN | apply below_drew1) | exact HB.out)) hb)
                               clear HO234
                               clear HB
                               have HO234 := n0_
                               have HB := n1_
                               clear n0_ n1_
                               (try clear hb)
                               (try clear hb2)
                               (try clear hk)
                               (try clear hi)
                               refine hK.out _ _ ⟨(kpz HB.out hw231_0), (kpz HB.out hw231_1), (kpz HB.out hw235_0), (kpz HB.out hw235_1), (kpz HB.out hw237_0), (kpz HB.out hw237_1), (kpz HB.out hw238_0), (kpz HB.out hw238_1)⟩ (fun hHeld => ?_)
                               clear hK K
                               refine norm_ (a' := ?_) ?_ ?_
                               rotate_left
                               ·show Act.put _ (some 71) _ = _
                                simp only [Act.put, zq1, zq2, zq3, i64_w]
                                rfl
                               exact norm_ (by first | (simp only [putAll, Act.put, zq1, zq2, zq3]; done) | (simp only [putAll, Act.put, zq1, zq2, zq3]; rfl)) (hJ7_16 (v233) _ ⟨hHeld, (by (with_reducible repeat (first | apply Kd.R_alloc | apply Kd.R_drewN | apply Kd.R_drew)); exact HO234.out), (by repeat (first | (with_reducible first | exact HB.out | apply below_alloc | apply pw_below_drewN | apply below_drew1) | exact HB.out))⟩)
                            ·skip
                             rintro _ w30 ⟨hS_, h0_⟩
                             have n0_ : Aside0 (Below w.heap.size w w30) := ⟨h0_⟩
                             clear HB
                             clear h0_
                             have HB := n0_
                             clear n0_
                             have hHeld : w30.cell? (ad230.add ((x9_2).toNat * 2)) = some (.int .i64 ((rd_T52 l2 x9_2).f0)) ∧ w30.cell? ⟨(ad230.add ((x9_2).toNat * 2)).block, (ad230.add ((x9_2).toNat * 2)).off + 1, none⟩ = some (.string ((rd_T52 l2 x9_2).f1)) ∧ w30.cell? (ad230.add ((x9_2).toNat * 2)) = some (.int .i64 ((rd_T52 l2 x9_2).f0)) ∧ w30.cell? ⟨(ad230.add ((x9_2).toNat * 2)).block, (ad230.add ((x9_2).toNat * 2)).off + 1, none⟩ = some (.string ((rd_T52 l2 x9_2).f1)) ∧ w30.cell? (ad230.add ((x9_2).toNat * 2)) = some (.int .i64 ((rd_T52 l2 x9_2).f0)) ∧ w30.cell? ⟨(ad230.add ((x9_2).toNat * 2)).block, (ad230.add ((x9_2).toNat * 2)).off + 1, none⟩ = some (.string ((rd_T52 l2 x9_2).f1)) ∧ w30.cell? (ad230.add ((x9_2).toNat * 2)) = some (.int .i64 ((rd_T52 l2 x9_2).f0)) ∧ w30.cell? ⟨(ad230.add ((x9_2).toNat * 2)).block, (ad230.add ((x9_2).toNat * 2)).off + 1, none⟩ = some (.string ((rd_T52 l2 x9_2).f1)) := hS_
                             refine norm_ (a' := ?_) ?_ ?_
                             rotate_left
                             ·simp only [putAll, Act.put, zq1, zq2, zq3]
                              rfl
                             refine two_ (i := 7) (j := 30) (Ni := some 62) (Nj := some 85) #[true, true, true, true, true, true, true, true, false, true, true, true, true, true, true, true, true, false, true, true, true, true, true, false, true, true, true, true, true, true, false, false, false, false] #[true, true, true, true, true, true, true, false, false, true, true, true, true, true, true, true, true, false, true, true, true, true, true, false, true, true, true, true, true, true, true, false, false, false] rfl rfl rfl rfl (two_of HT_.out (by kernel_rfl)) (by decide) (by decide) (fun K hK => ?_) (fun K hK => ?_)
                             ·skip
                              refine Kd.R_lit_step (Kd.int .u8) _ 5 ?hg (N := 62) ?hd (xs := ([((rd_T52 l2 x9_2).f0) % 256] : List Int)) (inner := [.int .u8 (((rd_T52 l2 x9_2).f0) % 256)]) (ok := fun _ => True) (okp := fun _ => True) ?hr ?hp (fun _ hk => hk) trivial (Below.refl _ _) (Nat.le_refl _) (by simp) ?_; (case hd => rfl); (case hg => rfl); (case hr => first | (go_simp; done) | (go_simp; rfl)); (case hp => exact (Reps.one (show Kd.M (Kd.int .u8) _ _ _ (((rd_T52 l2 x9_2).f0) % 256) [.int .u8 (((rd_T52 l2 x9_2).f0) % 256)] from rfl) (Reps.none _ _)))
                              intro v233 w31 ho32 hb hg_ hnew_
                              clear hg_ hnew_
                              (first | rw [← Ny232.out] at ho32 | (simp only [Int.reduceToNat] at ho32; rw [← Ny232.out] at ho32))
                              have n0_ := Aside0.mk (Kd.R_lower ho32 (below_size (by repeat (first | (with_reducible first | exact HB.out | apply below_alloc | apply pw_below_drewN | apply below_drew1) | exact HB.out))))
                              have n1_ := Aside0.mk (below_step (by repeat (first | (with_reducible first | exact HB.out | apply below_alloc | apply pw_below_drewN | apply below_drew1) | exact HB.out)) hb)
                              clear HB
                              have HO234 := n0_
                              have HB := n1_
                              clear n0_ n1_
                              clear hb ho32
                              refine hK.out _ _ ⟨(kpz HB.out hw231_0), (kpz HB.out hw231_1), (kpz HB.out hw235_0), (kpz HB.out hw235_1), (kpz HB.out hw237_0), (kpz HB.out hw237_1), (kpz HB.out hw238_0), (kpz HB.out hw238_1)⟩ (fun hHeld => ?_)
                              clear hK K
                              refine norm_ (a' := ?_) ?_ ?_
                              rotate_left
                              ·show Act.put _ (some 62) _ = _
                               simp only [Act.put, zq1, zq2, zq3, i64_w]
                               rfl
                              exact norm_ (by first | (simp only [putAll, Act.put, zq1, zq2, zq3]; done) | (simp only [putAll, Act.put, zq1, zq2, zq3]; rfl)) (hJ7_16_29 (v233) _ ⟨hHeld, (by (with_reducible repeat (first | apply Kd.R_alloc | apply Kd.R_drewN | apply Kd.R_drew)); exact HO234.out), (by repeat (first | (with_reducible first | exact HB.out | apply below_alloc | apply pw_below_drewN | apply below_drew1) | exact HB.out))⟩)
                             ·skip
                              refine goes_ Try.func25 (by kernel_rfl) rfl #[.int .u32 t239] (by rfl) rfl rfl (by (try simp only [List.map_toArray, List.map_cons, List.map_nil]); first | done | rfl | (simp only [List.length_drop, List.length_take]; rfl)) ?_
                              with_reducible refine (dioramaref03_Put.calls kj13 t239 t240 _ A25.out).mono ?_
                              rintro e w31 ⟨rfl, hb⟩
                              refine ⟨_, rfl, ?_⟩
                              have n0_ := Aside0.mk (below_step (by repeat (first | (with_reducible first | exact HB.out | apply below_alloc | apply pw_below_drewN | apply below_drew1) | exact HB.out)) hb)
                              clear HB
                              have HB := n0_
                              clear n0_
                              (try clear hb)
                              (try clear hb2)
                              (try clear hk)
                              (try clear hi)
                              refine hK.out _ _ ⟨(kpz HB.out hw231_0), (kpz HB.out hw231_1), (kpz HB.out hw235_0), (kpz HB.out hw235_1), (kpz HB.out hw237_0), (kpz HB.out hw237_1), (kpz HB.out hw238_0), (kpz HB.out hw238_1)⟩ (fun hHeld => ?_)
                              clear hK K
                              refine norm_ (a' := ?_) ?_ ?_
                              rotate_left
                              ·show Act.put _ (some 85) _ = _
                               simp only [Act.put, zq1, zq2, zq3, i64_w]
                               rfl
                              exact norm_ (by first | (simp only [putAll, Act.put, zq1, zq2, zq3]; done) | (simp only [putAll, Act.put, zq1, zq2, zq3]; rfl)) (hJ16_29_30 () _ ⟨hHeld, (by repeat (first | (with_reducible first | exact HB.out | apply below_alloc | apply pw_below_drewN | apply below_drew1) | exact HB.out))⟩)
                           ·skip
                            rintro v233 w32 ⟨hS_, h0_, h1_⟩
                            have n0_ : Aside0 (Kd.R (Kd.int .u8) 5 w32 w.heap.size (fun _ => True) v233 y232) := ⟨h0_⟩
                            have n1_ : Aside0 (Below w.heap.size w w32) := ⟨h1_⟩
                            clear HB
                            clear h0_ h1_
                            have HO234 := n0_
                            have HB := n1_
                            clear n0_ n1_
                            have hHeld : w32.cell? (ad230.add ((x9_2).toNat * 2)) = some (.int .i64 ((rd_T52 l2 x9_2).f0)) ∧ w32.cell? ⟨(ad230.add ((x9_2).toNat * 2)).block, (ad230.add ((x9_2).toNat * 2)).off + 1, none⟩ = some (.string ((rd_T52 l2 x9_2).f1)) ∧ w32.cell? (ad230.add ((x9_2).toNat * 2)) = some (.int .i64 ((rd_T52 l2 x9_2).f0)) ∧ w32.cell? ⟨(ad230.add ((x9_2).toNat * 2)).block, (ad230.add ((x9_2).toNat * 2)).off + 1, none⟩ = some (.string ((rd_T52 l2 x9_2).f1)) ∧ w32.cell? (ad230.add ((x9_2).toNat * 2)) = some (.int .i64 ((rd_T52 l2 x9_2).f0)) ∧ w32.cell? ⟨(ad230.add ((x9_2).toNat * 2)).block, (ad230.add ((x9_2).toNat * 2)).off + 1, none⟩ = some (.string ((rd_T52 l2 x9_2).f1)) ∧ w32.cell? (ad230.add ((x9_2).toNat * 2)) = some (.int .i64 ((rd_T52 l2 x9_2).f0)) ∧ w32.cell? ⟨(ad230.add ((x9_2).toNat * 2)).block, (ad230.add ((x9_2).toNat * 2)).off + 1, none⟩ = some (.string ((rd_T52 l2 x9_2).f1)) := hS_
                            refine norm_ (a' := ?_) ?_ ?_
                            rotate_left
                            ·simp only [putAll, Act.put, zq1, zq2, zq3]
                             rfl
                            refine two_ (i := 8) (j := 29) (Ni := some 63) (Nj := some 84) #[true, true, true, true, true, true, true, true, true, true, true, true, true, true, true, true, true, false, true, true, true, true, true, false, true, true, true, true, true, false, false, false, false, false] #[true, true, true, true, true, true, true, true, false, true, true, true, true, true, true, true, true, false, true, true, true, true, true, false, true, true, true, true, true, true, false, false, false, false] rfl rfl rfl rfl (two_of HT_.out (by kernel_rfl)) (by decide) (by decide) (fun K hK => ?_) (fun K hK => ?_)
                            ·skip
                             have hcv33 := own_string (P := Try.prog) Try.underlying72 Try.underlying5 Try.underlying9 (Kd.own_of_R HO234.out)
                             refine value_ (w1 := ?_) (v := ?_) (by rfl) rfl ?_ ?_
                             rotate_left 2
                             ·go_simp
                              constructor
                              ·rfl
                              ·rfl
                             clear hcv33
                             refine hK.out _ _ ⟨(kpz HB.out hw231_0), (kpz HB.out hw231_1), (kpz HB.out hw235_0), (kpz HB.out hw235_1), (kpz HB.out hw237_0), (kpz HB.out hw237_1), (kpz HB.out hw238_0), (kpz HB.out hw238_1)⟩ (fun hHeld => ?_)
                             clear hK K
                             refine norm_ (a' := ?_) ?_ ?_
                             rotate_left
                             ·show Act.put _ (some 63) _ = _
                              simp only [Act.put, zq1, zq2, zq3, i64_w]
                              rfl
                             refine pure_ (i := 17) (N := some 72) (v := ?_) (a' := ?_) #[true, true, true, true, true, true, true, true, true, true, true, true, true, true, true, true, true, true, true, true, true, true, true, false, true, true, true, true, true, false, false, false, false, false] rfl rfl (any_of HT_.out (by kernel_rfl)) (fun _ _ _ h => h) (Or.inl ⟨by rfl, ?_⟩) ?_ ?_
                             rotate_left
                             ·intro w'
                              go_simp
                              with_reducible rfl
                             rotate_left
                             ·simp only [Act.put, zq1, zq2, zq3, i64_w]
                              rfl
                             refine pure_ (i := 23) (N := some 78) (v := ?_) (a' := ?_) #[true, true, true, true, true, true, true, true, true, true, true, true, true, true, true, true, true, true, true, true, true, true, true, true, true, true, true, true, true, false, false, false, false, false] rfl rfl (any_of HT_.out (by kernel_rfl)) (fun _ _ _ h => h) (Or.inl ⟨by rfl, ?_⟩) ?_ ?_
                             rotate_left
                             ·intro w'
                              go_simp
                              with_reducible rfl
                             rotate_left
                             ·simp only [Act.put, zq1, zq2, zq3, i64_w]
                              rfl
                             exact norm_ (by first | (simp only [putAll, Act.put, zq1, zq2, zq3]; done) | (simp only [putAll, Act.put, zq1, zq2, zq3]; rfl)) (hJ7_8_16 (v233) _ ⟨hHeld, (by (with_reducible repeat (first | apply Kd.R_alloc | apply Kd.R_drewN | apply Kd.R_drew)); exact HO234.out), (by repeat (first | (with_reducible first | exact HB.out | apply below_alloc | apply pw_below_drewN | apply below_drew1) | exact HB.out))⟩)
                            ·skip
                             refine goes_ Try.func21 (by kernel_rfl) rfl #[.string ((rd_T52 l2 x9_2).f1)] (by rfl) rfl rfl (by (try simp only [List.map_toArray, List.map_cons, List.map_nil]); first | done | rfl | (simp only [List.length_drop, List.length_take]; rfl)) ?_
                             with_reducible refine (dioramaref03_Sum.calls kj13 ((rd_T52 l2 x9_2).f1) t239 _ A24.out).mono ?_
                             rintro e w' ⟨rfl, ⟨nd, rfl⟩⟩
                             refine ⟨_, rfl, ?_⟩
                             refine hK.out _ _ ⟨(kpz HB.out hw231_0), (kpz HB.out hw231_1), (kpz HB.out hw235_0), (kpz HB.out hw235_1), (kpz HB.out hw237_0), (kpz HB.out hw237_1), (kpz HB.out hw238_0), (kpz HB.out hw238_1)⟩ (fun hHeld => ?_)
                             clear hK K
                             refine norm_ (a' := ?_) ?_ ?_
                             rotate_left
                             ·show Act.put _ (some 84) _ = _
                              simp only [Act.put, zq1, zq2, zq3, i64_w]
                              rfl
                             exact norm_ (by first | (simp only [putAll, Act.put, zq1, zq2, zq3]; done) | (simp only [putAll, Act.put, zq1, zq2, zq3]; rfl)) (hJ7_16_29 (v233) _ ⟨hHeld, (by (with_reducible repeat (first | apply Kd.R_alloc | apply Kd.R_drewN | apply Kd.R_drew)); exact HO234.out), (by repeat (first | (with_reducible first | exact HB.out | apply below_alloc | apply pw_below_drewN | apply below_drew1) | exact HB.out))⟩)
                          ·skip
                           rintro v233 w32 ⟨hS_, h0_, h1_⟩
                           have n0_ : Aside0 (Kd.R (Kd.int .u8) 5 w32 w.heap.size (fun _ => True) v233 y232) := ⟨h0_⟩
                           have n1_ : Aside0 (Below w.heap.size w w32) := ⟨h1_⟩
                           clear HB
                           clear h0_ h1_
                           have HO234 := n0_
                           have HB := n1_
                           clear n0_ n1_
                           have hHeld : w32.cell? (ad230.add ((x9_2).toNat * 2)) = some (.int .i64 ((rd_T52 l2 x9_2).f0)) ∧ w32.cell? ⟨(ad230.add ((x9_2).toNat * 2)).block, (ad230.add ((x9_2).toNat * 2)).off + 1, none⟩ = some (.string ((rd_T52 l2 x9_2).f1)) ∧ w32.cell? (ad230.add ((x9_2).toNat * 2)) = some (.int .i64 ((rd_T52 l2 x9_2).f0)) ∧ w32.cell? ⟨(ad230.add ((x9_2).toNat * 2)).block, (ad230.add ((x9_2).toNat * 2)).off + 1, none⟩ = some (.string ((rd_T52 l2 x9_2).f1)) ∧ w32.cell? (ad230.add ((x9_2).toNat * 2)) = some (.int .i64 ((rd_T52 l2 x9_2).f0)) ∧ w32.cell? ⟨(ad230.add ((x9_2).toNat * 2)).block, (ad230.add ((x9_2).toNat * 2)).off + 1, none⟩ = some (.string ((rd_T52 l2 x9_2).f1)) ∧ w32.cell? (ad230.add ((x9_2).toNat * 2)) = some (.int .i64 ((rd_T52 l2 x9_2).f0)) ∧ w32.cell? ⟨(ad230.add ((x9_2).toNat * 2)).block, (ad230.add ((x9_2).toNat * 2)).off + 1, none⟩ = some (.string ((rd_T52 l2 x9_2).f1)) := hS_
                           refine norm_ (a' := ?_) ?_ ?_
                           rotate_left
                           ·simp only [putAll, Act.put, zq1, zq2, zq3]
                            rfl
                           refine one_ (i := 16) (N := some 71) #[true, true, true, true, true, true, true, true, true, true, true, true, true, true, true, true, true, false, true, true, true, true, true, false, true, true, true, true, true, false, false, false, false, false] rfl rfl (one_of HT_.out (by kernel_rfl)) (by decide) (fun K hK => ?_)
                           refine goes_ Try.func48 (by kernel_rfl) rfl #[.int .u64 (IntKind.u64.wrap ((((rd_T52 l2 x9_2).f1).size : Int)))] (by rfl) rfl rfl (by (try simp only [List.map_toArray, List.map_cons, List.map_nil]); first | done | rfl | (simp only [List.length_drop, List.length_take]; rfl)) ?_
                           with_reducible refine (dioramaref01_Put.calls kj13 (IntKind.u64.wrap ((((rd_T52 l2 x9_2).f1).size : Int))) t236 _ A21.out).mono ?_
                           rintro e w33 ⟨rfl, hb⟩
                           refine ⟨_, rfl, ?_⟩
                           have n0_ := Aside0.mk (Kd.R_below (by (with_reducible repeat (first | apply Kd.R_alloc | apply Kd.R_drewN | apply Kd.R_drew)); exact HO234.out) hb)
                           have n1_ := Aside0.mk (below_step (by repeat (first | (with_reducible first | exact HB.out | apply below_alloc | apply pw_below_drewN | apply below_drew1) | exact HB.out)) hb)
                           clear HO234
                           clear HB
                           have HO234 := n0_
                           have HB := n1_
                           clear n0_ n1_
                           (try clear hb)
                           (try clear hb2)
                           (try clear hk)
                           (try clear hi)
                           refine hK.out _ _ ⟨(kpz HB.out hw231_0), (kpz HB.out hw231_1), (kpz HB.out hw235_0), (kpz HB.out hw235_1), (kpz HB.out hw237_0), (kpz HB.out hw237_1), (kpz HB.out hw238_0), (kpz HB.out hw238_1)⟩ (fun hHeld => ?_)
                           clear hK K
                           refine norm_ (a' := ?_) ?_ ?_
                           rotate_left
                           ·show Act.put _ (some 71) _ = _
                            simp only [Act.put, zq1, zq2, zq3, i64_w]
                            rfl
                           refine pure_ (i := 17) (N := some 72) (v := ?_) (a' := ?_) #[true, true, true, true, true, true, true, true, true, true, true, true, true, true, true, true, true, true, true, true, true, true, true, false, true, true, true, true, true, false, false, false, false, false] rfl rfl (any_of HT_.out (by kernel_rfl)) (fun _ _ _ h => h) (Or.inl ⟨by rfl, ?_⟩) ?_ ?_
                           rotate_left
                           ·intro w'
                            go_simp
                            with_reducible rfl
                           rotate_left
                           ·simp only [Act.put, zq1, zq2, zq3, i64_w]
                            rfl
                           refine pure_ (i := 23) (N := some 78) (v := ?_) (a' := ?_) #[true, true, true, true, true, true, true, true, true, true, true, true, true, true, true, true, true, true, true, true, true, true, true, true, true, true, true, true, true, false, false, false, false, false] rfl rfl (any_of HT_.out (by kernel_rfl)) (fun _ _ _ h => h) (Or.inl ⟨by rfl, ?_⟩) ?_ ?_
                           rotate_left
                           ·intro w'
                            go_simp
                            with_reducible rfl
                           rotate_left
                           ·simp only [Act.put, zq1, zq2, zq3, i64_w]
                            rfl
                           exact norm_ (by first | (simp only [putAll, Act.put, zq1, zq2, zq3]; done) | (simp only [putAll, Act.put, zq1, zq2, zq3]; rfl)) (hJ7_8_16 (v233) _ ⟨hHeld, (by (with_reducible repeat (first | apply Kd.R_alloc | apply Kd.R_drewN | apply Kd.R_drew)); exact HO234.out), (by repeat (first | (with_reducible first | exact HB.out | apply below_alloc | apply pw_below_drewN | apply below_drew1) | exact HB.out))⟩)
                         ·skip
                          rintro _ w31 ⟨hS_, h0_⟩
                          have n0_ : Aside0 (Below w.heap.size w w31) := ⟨h0_⟩
                          clear HB
                          clear h0_
                          have HB := n0_
                          clear n0_
                          have hHeld : w31.cell? (ad230.add ((x9_2).toNat * 2)) = some (.int .i64 ((rd_T52 l2 x9_2).f0)) ∧ w31.cell? ⟨(ad230.add ((x9_2).toNat * 2)).block, (ad230.add ((x9_2).toNat * 2)).off + 1, none⟩ = some (.string ((rd_T52 l2 x9_2).f1)) ∧ w31.cell? (ad230.add ((x9_2).toNat * 2)) = some (.int .i64 ((rd_T52 l2 x9_2).f0)) ∧ w31.cell? ⟨(ad230.add ((x9_2).toNat * 2)).block, (ad230.add ((x9_2).toNat * 2)).off + 1, none⟩ = some (.string ((rd_T52 l2 x9_2).f1)) ∧ w31.cell? (ad230.add ((x9_2).toNat * 2)) = some (.int .i64 ((rd_T52 l2 x9_2).f0)) ∧ w31.cell? ⟨(ad230.add ((x9_2).toNat * 2)).block, (ad230.add ((x9_2).toNat * 2)).off + 1, none⟩ = some (.string ((rd_T52 l2 x9_2).f1)) ∧ w31.cell? (ad230.add ((x9_2).toNat * 2)) = some (.int .i64 ((rd_T52 l2 x9_2).f0)) ∧ w31.cell? ⟨(ad230.add ((x9_2).toNat * 2)).block, (ad230.add ((x9_2).toNat * 2)).off + 1, none⟩ = some (.string ((rd_T52 l2 x9_2).f1)) := hS_
                          refine norm_ (a' := ?_) ?_ ?_
                          rotate_left
                          ·simp only [putAll, Act.put, zq1, zq2, zq3]
                           rfl
                          refine one_ (i := 7) (N := some 62) #[true, true, true, true, true, true, true, true, false, true, true, true, true, true, true, true, true, false, true, true, true, true, true, false, true, true, true, true, true, true, true, false, false, false] rfl rfl (one_of HT_.out (by kernel_rfl)) (by decide) (fun K hK => ?_)
                          refine Kd.R_lit_step (Kd.int .u8) _ 5 ?hg (N := 62) ?hd (xs := ([((rd_T52 l2 x9_2).f0) % 256] : List Int)) (inner := [.int .u8 (((rd_T52 l2 x9_2).f0) % 256)]) (ok := fun _ => True) (okp := fun _ => True) ?hr ?hp (fun _ hk => hk) trivial (Below.refl _ _) (Nat.le_refl _) (by simp) ?_; (case hd => rfl); (case hg => rfl); (case hr => first | (go_simp; done) | (go_simp; rfl)); (case hp => exact (Reps.one (show Kd.M (Kd.int .u8) _ _ _ (((rd_T52 l2 x9_2).f0) % 256) [.int .u8 (((rd_T52 l2 x9_2).f0) % 256)] from rfl) (Reps.none _ _)))
                          intro v233 w32 ho33 hb hg_ hnew_
                          clear hg_ hnew_
                          (first | rw [← Ny232.out] at ho33 | (simp only [Int.reduceToNat] at ho33; rw [← Ny232.out] at ho33))
                          have n0_ := Aside0.mk (Kd.R_lower ho33 (below_size (by repeat (first | (with_reducible first | exact HB.out | apply below_alloc | apply pw_below_drewN | apply below_drew1) | exact HB.out))))
                          have n1_ := Aside0.mk (below_step (by repeat (first | (with_reducible first | exact HB.out | apply below_alloc | apply pw_below_drewN | apply below_drew1) | exact HB.out)) hb)
                          clear HB
                          have HO234 := n0_
                          have HB := n1_
                          clear n0_ n1_
                          clear hb ho33
                          refine hK.out _ _ ⟨(kpz HB.out hw231_0), (kpz HB.out hw231_1), (kpz HB.out hw235_0), (kpz HB.out hw235_1), (kpz HB.out hw237_0), (kpz HB.out hw237_1), (kpz HB.out hw238_0), (kpz HB.out hw238_1)⟩ (fun hHeld => ?_)
                          clear hK K
                          refine norm_ (a' := ?_) ?_ ?_
                          rotate_left
                          ·show Act.put _ (some 62) _ = _
                           simp only [Act.put, zq1, zq2, zq3, i64_w]
                           rfl
                          exact norm_ (by first | (simp only [putAll, Act.put, zq1, zq2, zq3]; done) | (simp only [putAll, Act.put, zq1, zq2, zq3]; rfl)) (hJ7_16_29_30 (v233) _ ⟨hHeld, (by (with_reducible repeat (first | apply Kd.R_alloc | apply Kd.R_drewN | apply Kd.R_drew)); exact HO234.out), (by repeat (first | (with_reducible first | exact HB.out | apply below_alloc | apply pw_below_drewN | apply below_drew1) | exact HB.out))⟩)
                        ·skip
                         rintro v233 w32 ⟨hS_, h0_, h1_⟩
                         have n0_ : Aside0 (Kd.R (Kd.int .u8) 5 w32 w.heap.size (fun _ => True) v233 y232) := ⟨h0_⟩
                         have n1_ : Aside0 (Below w.heap.size w w32) := ⟨h1_⟩
                         clear HB
                         clear h0_ h1_
                         have HO234 := n0_
                         have HB := n1_
                         clear n0_ n1_
                         have hHeld : w32.cell? (ad230.add ((x9_2).toNat * 2)) = some (.int .i64 ((rd_T52 l2 x9_2).f0)) ∧ w32.cell? ⟨(ad230.add ((x9_2).toNat * 2)).block, (ad230.add ((x9_2).toNat * 2)).off + 1, none⟩ = some (.string ((rd_T52 l2 x9_2).f1)) ∧ w32.cell? (ad230.add ((x9_2).toNat * 2)) = some (.int .i64 ((rd_T52 l2 x9_2).f0)) ∧ w32.cell? ⟨(ad230.add ((x9_2).toNat * 2)).block, (ad230.add ((x9_2).toNat * 2)).off + 1, none⟩ = some (.string ((rd_T52 l2 x9_2).f1)) ∧ w32.cell? (ad230.add ((x9_2).toNat * 2)) = some (.int .i64 ((rd_T52 l2 x9_2).f0)) ∧ w32.cell? ⟨(ad230.add ((x9_2).toNat * 2)).block, (ad230.add ((x9_2).toNat * 2)).off + 1, none⟩ = some (.string ((rd_T52 l2 x9_2).f1)) ∧ w32.cell? (ad230.add ((x9_2).toNat * 2)) = some (.int .i64 ((rd_T52 l2 x9_2).f0)) ∧ w32.cell? ⟨(ad230.add ((x9_2).toNat * 2)).block, (ad230.add ((x9_2).toNat * 2)).off + 1, none⟩ = some (.string ((rd_T52 l2 x9_2).f1)) := hS_
                         refine norm_ (a' := ?_) ?_ ?_
                         rotate_left
                         ·simp only [putAll, Act.put, zq1, zq2, zq3]
                          rfl
                         refine two_ (i := 8) (j := 30) (Ni := some 63) (Nj := some 85) #[true, true, true, true, true, true, true, true, true, true, true, true, true, true, true, true, true, false, true, true, true, true, true, false, true, true, true, true, true, true, false, false, false, false] #[true, true, true, true, true, true, true, true, false, true, true, true, true, true, true, true, true, false, true, true, true, true, true, false, true, true, true, true, true, true, true, false, false, false] rfl rfl rfl rfl (two_of HT_.out (by kernel_rfl)) (by decide) (by decide) (fun K hK => ?_) (fun K hK => ?_)
                         ·skip
                          have hcv33 := own_string (P := Try.prog) Try.underlying72 Try.underlying5 Try.underlying9 (Kd.own_of_R HO234.out)
                          refine value_ (w1 := ?_) (v := ?_) (by rfl) rfl ?_ ?_
                          rotate_left 2
                          ·go_simp
                           constructor
                           ·rfl
                           ·rfl
                          clear hcv33
                          refine hK.out _ _ ⟨(kpz HB.out hw231_0), (kpz HB.out hw231_1), (kpz HB.out hw235_0), (kpz HB.out hw235_1), (kpz HB.out hw237_0), (kpz HB.out hw237_1), (kpz HB.out hw238_0), (kpz HB.out hw238_1)⟩ (fun hHeld => ?_)
                          clear hK K
                          refine norm_ (a' := ?_) ?_ ?_
                          rotate_left
                          ·show Act.put _ (some 63) _ = _
                           simp only [Act.put, zq1, zq2, zq3, i64_w]
                           rfl
                          refine pure_ (i := 17) (N := some 72) (v := ?_) (a' := ?_) #[true, true, true, true, true, true, true, true, true, true, true, true, true, true, true, true, true, true, true, true, true, true, true, false, true, true, true, true, true, true, false, false, false, false] rfl rfl (any_of HT_.out (by kernel_rfl)) (fun _ _ _ h => h) (Or.inl ⟨by rfl, ?_⟩) ?_ ?_
                          rotate_left
                          ·intro w'
                           go_simp
                           with_reducible rfl
                          rotate_left
                          ·simp only [Act.put, zq1, zq2, zq3, i64_w]
                           rfl
                          refine pure_ (i := 23) (N := some 78) (v := ?_) (a' := ?_) #[true, true, true, true, true, true, true, true, true, true, true, true, true, true, true, true, true, true, true, true, true, true, true, true, true, true, true, true, true, true, false, false, false, false] rfl rfl (any_of HT_.out (by kernel_rfl)) (fun _ _ _ h => h) (Or.inl ⟨by rfl, ?_⟩) ?_ ?_
                          rotate_left
                          ·intro w'
                           go_simp
                           with_reducible rfl
                          rotate_left
                          ·simp only [Act.put, zq1, zq2, zq3, i64_w]
                           rfl
                          exact norm_ (by first | (simp only [putAll, Act.put, zq1, zq2, zq3]; done) | (simp only [putAll, Act.put, zq1, zq2, zq3]; rfl)) (hJ7_8_16_29 (v233) _ ⟨hHeld, (by (with_reducible repeat (first | apply Kd.R_alloc | apply Kd.R_drewN | apply Kd.R_drew)); exact HO234.out), (by repeat (first | (with_reducible first | exact HB.out | apply below_alloc | apply pw_below_drewN | apply below_drew1) | exact HB.out))⟩)
                         ·skip
                          refine goes_ Try.func25 (by kernel_rfl) rfl #[.int .u32 t239] (by rfl) rfl rfl (by (try simp only [List.map_toArray, List.map_cons, List.map_nil]); first | done | rfl | (simp only [List.length_drop, List.length_take]; rfl)) ?_
                          with_reducible refine (dioramaref03_Put.calls kj13 t239 t240 _ A25.out).mono ?_
                          rintro e w33 ⟨rfl, hb⟩
                          refine ⟨_, rfl, ?_⟩
                          have n0_ := Aside0.mk (Kd.R_below (by (with_reducible repeat (first | apply Kd.R_alloc | apply Kd.R_drewN | apply Kd.R_drew)); exact HO234.out) hb)
                          have n1_ := Aside0.mk (below_step (by repeat (first | (with_reducible first | exact HB.out | apply below_alloc | apply pw_below_drewN | apply below_drew1) | exact HB.out)) hb)
                          clear HO234
                          clear HB
                          have HO234 := n0_
                          have HB := n1_
                          clear n0_ n1_
                          (try clear hb)
                          (try clear hb2)
                          (try clear hk)
                          (try clear hi)
                          refine hK.out _ _ ⟨(kpz HB.out hw231_0), (kpz HB.out hw231_1), (kpz HB.out hw235_0), (kpz HB.out hw235_1), (kpz HB.out hw237_0), (kpz HB.out hw237_1), (kpz HB.out hw238_0), (kpz HB.out hw238_1)⟩ (fun hHeld => ?_)
                          clear hK K
                          refine norm_ (a' := ?_) ?_ ?_
                          rotate_left
                          ·show Act.put _ (some 85) _ = _
                           simp only [Act.put, zq1, zq2, zq3, i64_w]
                           rfl
                          exact norm_ (by first | (simp only [putAll, Act.put, zq1, zq2, zq3]; done) | (simp only [putAll, Act.put, zq1, zq2, zq3]; rfl)) (hJ7_16_29_30 (v233) _ ⟨hHeld, (by (with_reducible repeat (first | apply Kd.R_alloc | apply Kd.R_drewN | apply Kd.R_drew)); exact HO234.out), (by repeat (first | (with_reducible first | exact HB.out | apply below_alloc | apply pw_below_drewN | apply below_drew1) | exact HB.out))⟩)
                       ·skip
                        rintro v233 w33 ⟨hS_, h0_, h1_⟩
                        have n0_ : Aside0 (Kd.R (Kd.int .u8) 5 w33 w.heap.size (fun _ => True) v233 y232) := ⟨h0_⟩
                        have n1_ : Aside0 (Below w.heap.size w w33) := ⟨h1_⟩
                        clear HB
                        clear h0_ h1_
                        have HO234 := n0_
                        have HB := n1_
                        clear n0_ n1_
                        have hHeld : w33.cell? (ad230.add ((x9_2).toNat * 2)) = some (.int .i64 ((rd_T52 l2 x9_2).f0)) ∧ w33.cell? ⟨(ad230.add ((x9_2).toNat * 2)).block, (ad230.add ((x9_2).toNat * 2)).off + 1, none⟩ = some (.string ((rd_T52 l2 x9_2).f1)) ∧ w33.cell? (ad230.add ((x9_2).toNat * 2)) = some (.int .i64 ((rd_T52 l2 x9_2).f0)) ∧ w33.cell? ⟨(ad230.add ((x9_2).toNat * 2)).block, (ad230.add ((x9_2).toNat * 2)).off + 1, none⟩ = some (.string ((rd_T52 l2 x9_2).f1)) ∧ w33.cell? (ad230.add ((x9_2).toNat * 2)) = some (.int .i64 ((rd_T52 l2 x9_2).f0)) ∧ w33.cell? ⟨(ad230.add ((x9_2).toNat * 2)).block, (ad230.add ((x9_2).toNat * 2)).off + 1, none⟩ = some (.string ((rd_T52 l2 x9_2).f1)) ∧ w33.cell? (ad230.add ((x9_2).toNat * 2)) = some (.int .i64 ((rd_T52 l2 x9_2).f0)) ∧ w33.cell? ⟨(ad230.add ((x9_2).toNat * 2)).block, (ad230.add ((x9_2).toNat * 2)).off + 1, none⟩ = some (.string ((rd_T52 l2 x9_2).f1)) := hS_
                        refine norm_ (a' := ?_) ?_ ?_
                        rotate_left
                        ·simp only [putAll, Act.put, zq1, zq2, zq3]
                         rfl
                        refine one_ (i := 29) (N := some 84) #[true, true, true, true, true, true, true, true, true, true, true, true, true, true, true, true, true, true, true, true, true, true, true, true, true, true, true, true, true, true, false, false, false, false] rfl rfl (one_of HT_.out (by kernel_rfl)) (by decide) (fun K hK => ?_)
                        refine goes_ Try.func21 (by kernel_rfl) rfl #[.string ((rd_T52 l2 x9_2).f1)] (by rfl) rfl rfl (by (try simp only [List.map_toArray, List.map_cons, List.map_nil]); first | done | rfl | (simp only [List.length_drop, List.length_take]; rfl)) ?_
                        with_reducible refine (dioramaref03_Sum.calls kj13 ((rd_T52 l2 x9_2).f1) t239 _ A24.out).mono ?_
                        rintro e w' ⟨rfl, ⟨nd, rfl⟩⟩
                        refine ⟨_, rfl, ?_⟩
                        refine hK.out _ _ ⟨(kpz HB.out hw231_0), (kpz HB.out hw231_1), (kpz HB.out hw235_0), (kpz HB.out hw235_1), (kpz HB.out hw237_0), (kpz HB.out hw237_1), (kpz HB.out hw238_0), (kpz HB.out hw238_1)⟩ (fun hHeld => ?_)
                        clear hK K
                        refine norm_ (a' := ?_) ?_ ?_
                        rotate_left
                        ·show Act.put _ (some 84) _ = _
                         simp only [Act.put, zq1, zq2, zq3, i64_w]
                         rfl
                        exact norm_ (by first | (simp only [putAll, Act.put, zq1, zq2, zq3]; done) | (simp only [putAll, Act.put, zq1, zq2, zq3]; rfl)) (hJ7_8_16_29 (v233) _ ⟨hHeld, (by (with_reducible repeat (first | apply Kd.R_alloc | apply Kd.R_drewN | apply Kd.R_drew)); exact HO234.out), (by repeat (first | (with_reducible first | exact HB.out | apply below_alloc | apply pw_below_drewN | apply below_drew1) | exact HB.out))⟩)
                      ·skip
                       rintro v233 w33 ⟨hS_, h0_, h1_⟩
                       have n0_ : Aside0 (Kd.R (Kd.int .u8) 5 w33 w.heap.size (fun _ => True) v233 y232) := ⟨h0_⟩
                       have n1_ : Aside0 (Below w.heap.size w w33) := ⟨h1_⟩
                       clear HB
                       clear h0_ h1_
                       have HO234 := n0_
                       have HB := n1_
                       clear n0_ n1_
                       have hHeld : w33.cell? (ad230.add ((x9_2).toNat * 2)) = some (.int .i64 ((rd_T52 l2 x9_2).f0)) ∧ w33.cell? ⟨(ad230.add ((x9_2).toNat * 2)).block, (ad230.add ((x9_2).toNat * 2)).off + 1, none⟩ = some (.string ((rd_T52 l2 x9_2).f1)) ∧ w33.cell? (ad230.add ((x9_2).toNat * 2)) = some (.int .i64 ((rd_T52 l2 x9_2).f0)) ∧ w33.cell? ⟨(ad230.add ((x9_2).toNat * 2)).block, (ad230.add ((x9_2).toNat * 2)).off + 1, none⟩ = some (.string ((rd_T52 l2 x9_2).f1)) ∧ w33.cell? (ad230.add ((x9_2).toNat * 2)) = some (.int .i64 ((rd_T52 l2 x9_2).f0)) ∧ w33.cell? ⟨(ad230.add ((x9_2).toNat * 2)).block, (ad230.add ((x9_2).toNat * 2)).off + 1, none⟩ = some (.string ((rd_T52 l2 x9_2).f1)) ∧ w33.cell? (ad230.add ((x9_2).toNat * 2)) = some (.int .i64 ((rd_T52 l2 x9_2).f0)) ∧ w33.cell? ⟨(ad230.add ((x9_2).toNat * 2)).block, (ad230.add ((x9_2).toNat * 2)).off + 1, none⟩ = some (.string ((rd_T52 l2 x9_2).f1)) := hS_
                       refine norm_ (a' := ?_) ?_ ?_
                       rotate_left
                       ·simp only [putAll, Act.put, zq1, zq2, zq3]
                        rfl
                       refine one_ (i := 8) (N := some 63) #[true, true, true, true, true, true, true, true, true, true, true, true, true, true, true, true, true, false, true, true, true, true, true, false, true, true, true, true, true, true, true, false, false, false] rfl rfl (one_of HT_.out (by kernel_rfl)) (by decide) (fun K hK => ?_)
                       have hcv34 := own_string (P := Try.prog) Try.underlying72 Try.underlying5 Try.underlying9 (Kd.own_of_R HO234.out)
                       refine value_ (w1 := ?_) (v := ?_) (by rfl) rfl ?_ ?_
                       rotate_left 2
                       ·go_simp
                        constructor
                        ·rfl
                        ·rfl
                       clear hcv34
                       refine hK.out _ _ ⟨(kpz HB.out hw231_0), (kpz HB.out hw231_1), (kpz HB.out hw235_0), (kpz HB.out hw235_1), (kpz HB.out hw237_0), (kpz HB.out hw237_1), (kpz HB.out hw238_0), (kpz HB.out hw238_1)⟩ (fun hHeld => ?_)
                       clear hK K
                       refine norm_ (a' := ?_) ?_ ?_
                       rotate_left
                       ·show Act.put _ (some 63) _ = _
                        simp only [Act.put, zq1, zq2, zq3, i64_w]
                        rfl
                       refine pure_ (i := 17) (N := some 72) (v := ?_) (a' := ?_) #[true, true, true, true, true, true, true, true, true, true, true, true, true, true, true, true, true, true, true, true, true, true, true, false, true, true, true, true, true, true, true, false, false, false] rfl rfl (any_of HT_.out (by kernel_rfl)) (fun _ _ _ h => h) (Or.inl ⟨by rfl, ?_⟩) ?_ ?_
                       rotate_left
                       ·intro w'
                        go_simp
                        with_reducible rfl
                       rotate_left
                       ·simp only [Act.put, zq1, zq2, zq3, i64_w]
                        rfl
                       refine pure_ (i := 23) (N := some 78) (v := ?_) (a' := ?_) #[true, true, true, true, true, true, true, true, true, true, true, true, true, true, true, true, true, true, true, true, true, true, true, true, true, true, true, true, true, true, true, false, false, false] rfl rfl (any_of HT_.out (by kernel_rfl)) (fun _ _ _ h => h) (Or.inl ⟨by rfl, ?_⟩) ?_ ?_
                       rotate_left
                       ·intro w'
                        go_simp
                        with_reducible rfl
                       rotate_left
                       ·simp only [Act.put, zq1, zq2, zq3, i64_w]
                        rfl
                       exact norm_ (by first | (simp only [putAll, Act.put, zq1, zq2, zq3]; done) | (simp only [putAll, Act.put, zq1, zq2, zq3]; rfl)) (hJ7_8_16_29_30 (v233) _ ⟨hHeld, (by (with_reducible repeat (first | apply Kd.R_alloc | apply Kd.R_drewN | apply Kd.R_drew)); exact HO234.out), (by repeat (first | (with_reducible first | exact HB.out | apply below_alloc | apply pw_below_drewN | apply below_drew1) | exact HB.out))⟩)
                     ·skip
                      rintro v233 w33 ⟨hS_, h0_, h1_⟩
                      have n0_ : Aside0 (Kd.R (Kd.int .u8) 5 w33 w.heap.size (fun _ => True) v233 y232) := ⟨h0_⟩
                      have n1_ : Aside0 (Below w.heap.size w w33) := ⟨h1_⟩
                      clear HB
                      clear h0_ h1_
                      have HO234 := n0_
                      have HB := n1_
                      clear n0_ n1_
                      have hHeld : w33.cell? (ad230.add ((x9_2).toNat * 2)) = some (.int .i64 ((rd_T52 l2 x9_2).f0)) ∧ w33.cell? ⟨(ad230.add ((x9_2).toNat * 2)).block, (ad230.add ((x9_2).toNat * 2)).off + 1, none⟩ = some (.string ((rd_T52 l2 x9_2).f1)) ∧ w33.cell? (ad230.add ((x9_2).toNat * 2)) = some (.int .i64 ((rd_T52 l2 x9_2).f0)) ∧ w33.cell? ⟨(ad230.add ((x9_2).toNat * 2)).block, (ad230.add ((x9_2).toNat * 2)).off + 1, none⟩ = some (.string ((rd_T52 l2 x9_2).f1)) ∧ w33.cell? (ad230.add ((x9_2).toNat * 2)) = some (.int .i64 ((rd_T52 l2 x9_2).f0)) ∧ w33.cell? ⟨(ad230.add ((x9_2).toNat * 2)).block, (ad230.add ((x9_2).toNat * 2)).off + 1, none⟩ = some (.string ((rd_T52 l2 x9_2).f1)) ∧ w33.cell? (ad230.add ((x9_2).toNat * 2)) = some (.int .i64 ((rd_T52 l2 x9_2).f0)) ∧ w33.cell? ⟨(ad230.add ((x9_2).toNat * 2)).block, (ad230.add ((x9_2).toNat * 2)).off + 1, none⟩ = some (.string ((rd_T52 l2 x9_2).f1)) := hS_
                      refine norm_ (a' := ?_) ?_ ?_
                      rotate_left
                      ·simp only [putAll, Act.put, zq1, zq2, zq3]
                       rfl
                      refine one_ (i := 30) (N := some 85) #[true, true, true, true, true, true, true, true, true, true, true, true, true, true, true, true, true, true, true, true, true, true, true, true, true, true, true, true, true, true, true, false, false, false] rfl rfl (one_of HT_.out (by kernel_rfl)) (by decide) (fun K hK => ?_)
                      refine goes_ Try.func25 (by kernel_rfl) rfl #[.int .u32 t239] (by rfl) rfl rfl (by (try simp only [List.map_toArray, List.map_cons, List.map_nil]); first | done | rfl | (simp only [List.length_drop, List.length_take]; rfl)) ?_
                      with_reducible refine (dioramaref03_Put.calls kj13 t239 t240 _ A25.out).mono ?_
                      rintro e w34 ⟨rfl, hb⟩
                      refine ⟨_, rfl, ?_⟩
                      have n0_ := Aside0.mk (Kd.R_below (by (with_reducible repeat (first | apply Kd.R_alloc | apply Kd.R_drewN | apply Kd.R_drew)); exact HO234.out) hb)
                      have n1_ := Aside0.mk (below_step (by repeat (first | (with_reducible first | exact HB.out | apply below_alloc | apply pw_below_drewN | apply below_drew1) | exact HB.out)) hb)
                      clear HO234
                      clear HB
                      have HO234 := n0_
                      have HB := n1_
                      clear n0_ n1_
                      (try clear hb)
                      (try clear hb2)
                      (try clear hk)
                      (try clear hi)
                      refine hK.out _ _ ⟨(kpz HB.out hw231_0), (kpz HB.out hw231_1), (kpz HB.out hw235_0), (kpz HB.out hw235_1), (kpz HB.out hw237_0), (kpz HB.out hw237_1), (kpz HB.out hw238_0), (kpz HB.out hw238_1)⟩ (fun hHeld => ?_)
                      clear hK K
                      refine norm_ (a' := ?_) ?_ ?_
                      rotate_left
                      ·show Act.put _ (some 85) _ = _
                       simp only [Act.put, zq1, zq2, zq3, i64_w]
                       rfl
                      exact norm_ (by first | (simp only [putAll, Act.put, zq1, zq2, zq3]; done) | (simp only [putAll, Act.put, zq1, zq2, zq3]; rfl)) (hJ7_8_16_29_30 (v233) _ ⟨hHeld, (by (with_reducible repeat (first | apply Kd.R_alloc | apply Kd.R_drewN | apply Kd.R_drew)); exact HO234.out), (by repeat (first | (with_reducible first | exact HB.out | apply below_alloc | apply pw_below_drewN | apply below_drew1) | exact HB.out))⟩)
                    rintro v233 w34 ⟨hS_, h0_, h1_⟩
                    have n0_ : Aside0 (Kd.R (Kd.int .u8) 5 w34 w.heap.size (fun _ => True) v233 y232) := ⟨h0_⟩
                    have n1_ : Aside0 (Below w.heap.size w w34) := ⟨h1_⟩
                    clear HB
                    clear h0_ h1_
                    have HO234 := n0_
                    have HB := n1_
                    clear n0_ n1_
                    have hHeld : w34.cell? (ad230.add ((x9_2).toNat * 2)) = some (.int .i64 ((rd_T52 l2 x9_2).f0)) ∧ w34.cell? ⟨(ad230.add ((x9_2).toNat * 2)).block, (ad230.add ((x9_2).toNat * 2)).off + 1, none⟩ = some (.string ((rd_T52 l2 x9_2).f1)) ∧ w34.cell? (ad230.add ((x9_2).toNat * 2)) = some (.int .i64 ((rd_T52 l2 x9_2).f0)) ∧ w34.cell? ⟨(ad230.add ((x9_2).toNat * 2)).block, (ad230.add ((x9_2).toNat * 2)).off + 1, none⟩ = some (.string ((rd_T52 l2 x9_2).f1)) ∧ w34.cell? (ad230.add ((x9_2).toNat * 2)) = some (.int .i64 ((rd_T52 l2 x9_2).f0)) ∧ w34.cell? ⟨(ad230.add ((x9_2).toNat * 2)).block, (ad230.add ((x9_2).toNat * 2)).off + 1, none⟩ = some (.string ((rd_T52 l2 x9_2).f1)) ∧ w34.cell? (ad230.add ((x9_2).toNat * 2)) = some (.int .i64 ((rd_T52 l2 x9_2).f0)) ∧ w34.cell? ⟨(ad230.add ((x9_2).toNat * 2)).block, (ad230.add ((x9_2).toNat * 2)).off + 1, none⟩ = some (.string ((rd_T52 l2 x9_2).f1)) := hS_
                    refine norm_ (a' := ?_) ?_ ?_
                    rotate_left
                    ·simp only [putAll, Act.put, zq1, zq2, zq3]
                     rfl
                    refine pure_ (i := 31) (N := some 86) (v := ?_) (a' := ?_) #[true, true, true, true, true, true, true, true, true, true, true, true, true, true, true, true, true, true, true, true, true, true, true, true, true, true, true, true, true, true, true, true, false, false] rfl rfl (any_of HT_.out (by kernel_rfl)) (fun _ _ _ h => h) (Or.inl ⟨by rfl, ?_⟩) ?_ ?_
                    rotate_left
                    ·intro w'
                     go_simp
                     with_reducible rfl
                    rotate_left
                    ·simp only [Act.put, zq1, zq2, zq3, i64_w]
                     rfl
                    refine pure_ (i := 32) (N := some 87) (v := ?_) (a' := ?_) #[true, true, true, true, true, true, true, true, true, true, true, true, true, true, true, true, true, true, true, true, true, true, true, true, true, true, true, true, true, true, true, true, true, false] rfl rfl (any_of HT_.out (by kernel_rfl)) (fun _ _ _ h => h) (Or.inl ⟨by rfl, ?_⟩) ?_ ?_
                    rotate_left
                    ·intro w'
                     go_simp
                     with_reducible rfl
                    rotate_left
                    ·simp only [Act.put, zq1, zq2, zq3, i64_w]
                     rfl
                    refine pure_ (i := 33) (N := some 8) (v := ?_) (a' := ?_) #[true, true, true, true, true, true, true, true, true, true, true, true, true, true, true, true, true, true, true, true, true, true, true, true, true, true, true, true, true, true, true, true, true, true] rfl rfl (any_of HT_.out (by kernel_rfl)) (fun _ _ _ h => h) (Or.inl ⟨by rfl, ?_⟩) ?_ ?_
                    rotate_left
                    ·intro w'
                     go_simp
                     with_reducible rfl
                    rotate_left
                    ·simp only [Act.put, zq1, zq2, zq3, i64_w]
                     rfl
                    refine done_ (done_of HT_.out (by kernel_rfl)) ?_
                    try go_wp2
                    go_roundg kj13
                    case measure => have := HJ4.out; have := HK2.out; have := HJ13.out; omega
                    case rel => exact ⟨(x8_2 ++ ((((strOfNums y232) ++ t236) ++ ((rd_T52 l2 x9_2).f1)) ++ t240)), (wrap64 (x9_2 + 1)), (by first | rfl | (simp; done) | (simp [*]; done)), (by first | rfl | (simp; done) | (simp [*]; done)), H', ⟨by have := HJ4.out; have := HK2.out; have := HJ13.out; omega⟩, ⟨by repeat (first | (with_reducible first | exact HB.out | apply below_alloc | apply pw_below_drewN | apply below_drew1) | exact HB.out)⟩⟩
                   ·rw [if_neg c27] at H
                    exact absurd H (by simp)
                  ·rw [if_neg c26] at H
                   exact absurd H (by simp)
                 ·rw [if_neg c23] at H
                  exact absurd H (by simp)
                ·rw [if_neg c22] at H
                 exact absurd H (by simp)
              ·rw [if_neg c19] at H
               exact absurd H (by simp)
             ·rw [if_neg c18] at H
              exact absurd H (by simp)
         ·rw [if_neg c13] at H
          have c13b0 : decide (x9_2 < (l2.length : Int)) = false := decide_eq_false c13
          clear c13
          simp only [Option.some.injEq, Prod.mk.injEq] at H
          obtain ⟨rfl, rfl⟩ := H
          go_wp2
          go_ret2
          exact ⟨by first | rfl | (simp [errW_none, errW_some] <;> rfl) | (simp [*, errW_none, errW_some] <;> rfl), by repeat (first | (with_reducible first | exact HB.out | apply below_alloc | apply pw_below_drewN | apply below_drew1) | exact HB.out)⟩
      ·rw [if_neg c9] at H
       exact absurd H (by simp)
 ·rw [if_neg c4] at H
  have c4b0 : ((a0.size : Int) == 4) = false := beq_eq_false_iff_ne.mpr c4
  have c4b1 : ((a0.size : Int) != 4) = true := bne_iff_ne.mpr c4
  simp only [Option.some.injEq, Prod.mk.injEq] at H
  obtain ⟨rfl, rfl⟩ := H
  go_enter Try.func31, Try.ntmps31
  go_wp2
  go_ret2
  exact ⟨by first | rfl | (simp [errW_none, errW_some] <;> rfl) | (simp [*, errW_none, errW_some] <;> rfl), by repeat (first | (with_reducible first | exact HB.out | apply below_alloc | apply pw_below_drewN | apply below_drew1) | exact HB.out)⟩
end Go.Proofs.Ytdjpelcdijpihaa.PrintF
