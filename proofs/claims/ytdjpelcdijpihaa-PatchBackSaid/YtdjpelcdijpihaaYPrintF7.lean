/- A part of the proof of the claim: what it uses of the text PrintF7 (printed by xprint.py). -/
import Derived.Test.YtdjpelcdijpihaaShort
import Derived.Test.YtdjpelcdijpihaaYPrintF0
import Derived.Test.YtdjpelcdijpihaaYPrintF6
namespace Go.Proofs.Ytdjpelcdijpihaa.PrintF
open Go.Proofs.Ytdjpelcdijpihaa.Print
open Go.RowKit Go.Proofs.YtdjpelcdijpihaaW.PrintWords Go.Proofs.YtdjpelcdijpihaaW.PrintLast Go.Proofs.YtdjpelcdijpihaaW.PrintMore
attribute [local go_sem] max2_int min2_int max_two min_two
set_option linter.unusedVariables false
set_option linter.unusedSimpArgs false
mutual
def dioramaref23_Great.l0 : Nat → List (S107) → Int → Option (Bool)
 | 0, _, _ => none
 | k + 1, x0, x3 => if x3 < (x0.length : Int) then (if 0 ≤ x3 then ((dioramaref08_Great.f k ((rd_T107 x0 x3).f4.f0) ((rd_T107 x0 x3).f4.f1) ((rd_T107 x0 x3).f4.f2) ((rd_T107 x0 x3).f4.f3)).bind fun t244 => (if t244 = true then (dioramaref23_Great.j1 k x0 x3 true) else (if (((rd_T107 x0 x3).f2).length : Int) > 50 then (dioramaref23_Great.j1 k x0 x3 true) else (dioramaref23_Great.j1 k x0 x3 (decide ((((rd_T107 x0 x3).f3).length : Int) > 100)))))) else (none)) else (some false)
def dioramaref23_Great.j1 : Nat → List (S107) → Int → Bool → Option (Bool)
 | 0, _, _, _ => none
 | k + 1, x0, x3, x37 => if x37 = true then (some true) else (dioramaref23_Great.l1 k x0 x3 0)
def dioramaref23_Great.l1 : Nat → List (S107) → Int → Int → Option (Bool)
 | 0, _, _, _ => none
 | k + 1, x0, x3, x4 => if 0 ≤ x3 then (if x3 < (x0.length : Int) then (if x4 < (((rd_T107 x0 x3).f2).length : Int) then (if 0 ≤ x4 then (if (((rd_T127 ((rd_T107 x0 x3).f2) x4).f3).size : Int) > 500 then (some true) else (dioramaref23_Great.l1 k x0 x3 (wrap64 (x4 + 1)))) else (none)) else (dioramaref23_Great.l0 k x0 (wrap64 (x3 + 1)))) else (none)) else (none)
end
def dioramaref23_Great.f (k : Nat) (l0 : List (S107)) : Option (Bool) := if (l0.length : Int) > 60 then (some true) else (dioramaref23_Great.l0 k l0 0)
set_option maxHeartbeats 8000000 in
set_option maxRecDepth 100000 in
theorem dioramaref23_Great.calls (k : Nat) (A0 : Option Addr) (c0 : Nat) (l0 : List (S107)) (r : Bool) (w : World) (hr0 : Kd.C k107 w A0 l0.length l0) (hc0 : l0.length ≤ c0) (h : dioramaref23_Great.f k l0 = some r) :
  Calls Try.prog 57 #[.slice A0 l0.length c0] w fun e w' => e = .returned (.bool r) ∧ Below w.heap.size w w' := by
 have hu105 := Try.underlying105
 have HR0 := Aside0.mk hr0
 have HC0 := Aside0.mk hc0
 clear hr0 hc0
 have HB := Aside0.mk (Below.refl w.heap.size w)
 have H : (if (l0.length : Int) > 60 then (some true) else (dioramaref23_Great.l0 k l0 0)) = some r := h
 clear h
 by_cases c2 : (l0.length : Int) > 60
 ·rw [if_pos c2] at H
  have c2b0 : decide (60 < (l0.length : Int)) = true := decide_eq_true c2
  have c2b1 : decide (60 < l0.length) = true := decide_eq_true (by omega)
  clear c2
  obtain rfl := Option.some.inj H
  go_enter Try.func57, Try.ntmps57
  go_wp2
  go_ret
  exact ⟨by first | rfl | (simp [errW_none, errW_some] <;> rfl) | (simp [*, errW_none, errW_some] <;> rfl), by repeat (first | (with_reducible first | exact HB.out | apply below_alloc | apply pw_below_drewN | apply below_drew1) | exact HB.out)⟩
 ·rw [if_neg c2] at H
  have c2b0 : decide (60 < (l0.length : Int)) = false := decide_eq_false c2
  have c2b1 : decide (60 < l0.length) = false := decide_eq_false (by omega)
  clear c2
  have H' := Aside0.mk H
  clear H
  go_enter Try.func57, Try.ntmps57
  go_wp2
  go_loopg [3] k (fun kq v3 w' => ∃ (x3_1 : Int), v3 = .int .i64 x3_1 ∧ Aside0 (dioramaref23_Great.l0 kq l0 x3_1 = some r) ∧ Aside0 (kq ≤ k) ∧ Aside0 (Below w.heap.size w w'))
  case atStart => exact ⟨(0), (by first | rfl | (simp; done) | (simp [*]; done)), H', ⟨Nat.le_refl _⟩, ⟨by repeat (first | (with_reducible first | exact HB.out | apply below_alloc | apply pw_below_drewN | apply below_drew1) | exact HB.out)⟩⟩
  case round =>
   clear H'
   try clear c2
   try clear c2b0
   try clear c2b1
   try clear p2
   obtain ⟨x3_1, rfl, HA, HK1, HB⟩ := hrel
   cases gk with
   | zero => exact absurd HA.out (by simp [dioramaref23_Great.l0])
   | succ k1 =>
    have H := HA.out
    clear HA
    simp only [dioramaref23_Great.l0] at H
    by_cases c3 : x3_1 < (l0.length : Int)
    ·rw [if_pos c3] at H
     have c3b0 : decide (x3_1 < (l0.length : Int)) = true := decide_eq_true c3
     clear c3
     have HC4 := Aside0.mk H
     clear H
     go_upto_region 6 with (fail)
     go_cut [37] (fun v37 wc => ∃ (kq : Nat) (x37_3 : Bool), v37 = .bool x37_3 ∧ Aside0 (dioramaref23_Great.j1 kq l0 x3_1 x37_3 = some r) ∧ Aside0 (kq ≤ k1) ∧ Aside0 (Below w.heap.size w wc))
     case first =>
      have H := HC4.out
      clear HC4
      by_cases c5 : 0 ≤ x3_1
      ·rw [if_pos c5] at H
       have c5b0 : decide (0 ≤ x3_1) = true := decide_eq_true c5
       clear c5
       (first | rw [c5b0] | (simp only [i64_w]; rw [c5b0]) | skip)
       replace H := Option.bind_eq_some_iff.mp H
       obtain ⟨t244, A60, H⟩ := H
       replace H : (if t244 = true then (dioramaref23_Great.j1 k1 l0 x3_1 true) else (if (((rd_T107 l0 x3_1).f2).length : Int) > 50 then (dioramaref23_Great.j1 k1 l0 x3_1 true) else (dioramaref23_Great.j1 k1 l0 x3_1 (decide ((((rd_T107 l0 x3_1).f3).length : Int) > 100))))) = some r := H
       have A6 := Aside0.mk A60
       clear A60
       by_cases c7 : t244 = true
       ·subst c7
        have H1 : (dioramaref23_Great.j1 k1 l0 x3_1 true) = some r := by rw [if_pos rfl] at H; exact H
        clear H
        have H := H1
        clear H1
        have H' := Aside0.mk H
        clear H
        have p243 : 0 ≤ (x3_1 : Int) := of_decide_eq_true (by first | (with_reducible assumption) | assumption)
        have q243 : x3_1 < (l0.length : Int) := of_decide_eq_true (by first | (with_reducible assumption) | assumption)
        obtain ⟨ad243, A243_2, c243_2, A243_3, c243_3, A243_5, c243_5, A243_6, c243_6, A243_7, c243_7, e243, hx243_0, hx243_1, hx243_2, hx243_3, hx243_4, hx243_5, hx243_6, hx243_7, hl243_2, hi243_2, hl243_3, hi243_3, hl243_5, hi243_5, hl243_6, hi243_6, hl243_7, hi243_7⟩ := at_T107 HR0.out x3_1 p243 q243
        cases e243
        replace hx243_0 := kpz HB.out hx243_0
        replace hx243_1 := kpz HB.out hx243_1
        replace hx243_2 := kpz HB.out hx243_2
        replace hx243_3 := kpz HB.out hx243_3
        replace hx243_4 := kpz HB.out hx243_4
        replace hx243_5 := kpz HB.out hx243_5
        replace hx243_6 := kpz HB.out hx243_6
        replace hx243_7 := kpz HB.out hx243_7
        have HR243_2 := Aside0.mk hi243_2
        have HC243_2 := Aside0.mk hl243_2
        clear hi243_2 hl243_2
        have HR243_3 := Aside0.mk hi243_3
        have HC243_3 := Aside0.mk hl243_3
        clear hi243_3 hl243_3
        have HR243_5 := Aside0.mk hi243_5
        have HC243_5 := Aside0.mk hl243_5
        clear hi243_5 hl243_5
        have HR243_6 := Aside0.mk hi243_6
        have HC243_6 := Aside0.mk hl243_6
        clear hi243_6 hl243_6
        have HR243_7 := Aside0.mk hi243_7
        have HC243_7 := Aside0.mk hl243_7
        clear hi243_7 hl243_7
        replace p243 := eq_true p243
        replace q243 := eq_true q243
        go_wp2_with (first | ((with_reducible refine gate_callee (f := 74) rfl ?_); refine goesL_ (some 19) rfl rfl Try.func74 (by kernel_rfl) rfl #[.agg #[.int .i64 ((rd_T107 l0 x3_1).f4.f0), .slice A243_5 ((rd_T107 l0 x3_1).f4.f1).length c243_5, .slice A243_6 ((rd_T107 l0 x3_1).f4.f2).length c243_6, .slice A243_7 ((rd_T107 l0 x3_1).f4.f3).length c243_7]] rfl (by (try simp only [List.map_toArray, List.map_cons, List.map_nil]); first | done | rfl | (simp only [List.length_drop, List.length_take]; rfl)) ?_; (with_reducible refine (dioramaref08_Great.calls k1 ((rd_T107 l0 x3_1).f4.f0) _ _ ((rd_T107 l0 x3_1).f4.f1) _ _ ((rd_T107 l0 x3_1).f4.f2) _ _ ((rd_T107 l0 x3_1).f4.f3) true _ ?side1 ?side2 ?side3 ?side4 ?side5 ?side6 A6.out).mono ?_); (case side1 => repeat (first | exact (Kd.C_below HR243_5.out HB.out) | (with_reducible refine Kd.C_alloc ?_ _) | (with_reducible refine Kd.C_drewN ?_ _) | (with_reducible refine Kd.C_drew ?_))); (case side2 => exact HC243_5.out); (case side3 => repeat (first | exact (Kd.C_below HR243_6.out HB.out) | (with_reducible refine Kd.C_alloc ?_ _) | (with_reducible refine Kd.C_drewN ?_ _) | (with_reducible refine Kd.C_drew ?_))); (case side4 => exact HC243_6.out); (case side5 => repeat (first | exact (Kd.C_below HR243_7.out HB.out) | (with_reducible refine Kd.C_alloc ?_ _) | (with_reducible refine Kd.C_drewN ?_ _) | (with_reducible refine Kd.C_drew ?_))); (case side6 => exact HC243_7.out); rintro e w8 ⟨rfl, hb⟩; refine ⟨_, rfl, ?_⟩; have n0_ := Aside0.mk (below_step (by repeat (first | (with_reducible first | exact HB.out | apply below_alloc | apply pw_below_drewN | apply below_drew1) | exact HB.out)) hb); clear HB; have HB := n0_; clear n0_; (try clear hb); (try clear hb2); (try clear hk); (try clear hi)))
        go_meet
        case rel => exact ⟨_, (true), (by first | rfl | (simp; done) | (simp [*]; done)), H', ⟨by have := HK1.out; first | omega | exact Nat.le_refl _⟩, ⟨by repeat (first | (with_reducible first | exact HB.out | apply below_alloc | apply pw_below_drewN | apply below_drew1) | exact HB.out)⟩⟩
       ·replace c7 := Bool.eq_false_iff.mpr c7
        subst c7
        have H1 : (if (((rd_T107 l0 x3_1).f2).length : Int) > 50 then (dioramaref23_Great.j1 k1 l0 x3_1 true) else (dioramaref23_Great.j1 k1 l0 x3_1 (decide ((((rd_T107 l0 x3_1).f3).length : Int) > 100)))) = some r := by rw [if_neg (show ¬ (false = true) by decide)] at H; exact H
        clear H
        have H := H1
        clear H1
        by_cases c9 : (((rd_T107 l0 x3_1).f2).length : Int) > 50
        ·rw [if_pos c9] at H
         have c9b0 : decide (50 < (((rd_T107 l0 x3_1).f2).length : Int)) = true := decide_eq_true c9
         have c9b1 : decide (50 < ((rd_T107 l0 x3_1).f2).length) = true := decide_eq_true (by omega)
         clear c9
         have H' := Aside0.mk H
         clear H
         have p243 : 0 ≤ (x3_1 : Int) := of_decide_eq_true (by first | (with_reducible assumption) | assumption)
         have q243 : x3_1 < (l0.length : Int) := of_decide_eq_true (by first | (with_reducible assumption) | assumption)
         obtain ⟨ad243, A243_2, c243_2, A243_3, c243_3, A243_5, c243_5, A243_6, c243_6, A243_7, c243_7, e243, hx243_0, hx243_1, hx243_2, hx243_3, hx243_4, hx243_5, hx243_6, hx243_7, hl243_2, hi243_2, hl243_3, hi243_3, hl243_5, hi243_5, hl243_6, hi243_6, hl243_7, hi243_7⟩ := at_T107 HR0.out x3_1 p243 q243
         cases e243
         replace hx243_0 := kpz HB.out hx243_0
         replace hx243_1 := kpz HB.out hx243_1
         replace hx243_2 := kpz HB.out hx243_2
         replace hx243_3 := kpz HB.out hx243_3
         replace hx243_4 := kpz HB.out hx243_4
         replace hx243_5 := kpz HB.out hx243_5
         replace hx243_6 := kpz HB.out hx243_6
         replace hx243_7 := kpz HB.out hx243_7
         have HR243_2 := Aside0.mk hi243_2
         have HC243_2 := Aside0.mk hl243_2
         clear hi243_2 hl243_2
         have HR243_3 := Aside0.mk hi243_3
         have HC243_3 := Aside0.mk hl243_3
         clear hi243_3 hl243_3
         have HR243_5 := Aside0.mk hi243_5
         have HC243_5 := Aside0.mk hl243_5
         clear hi243_5 hl243_5
         have HR243_6 := Aside0.mk hi243_6
         have HC243_6 := Aside0.mk hl243_6
         clear hi243_6 hl243_6
         have HR243_7 := Aside0.mk hi243_7
         have HC243_7 := Aside0.mk hl243_7
         clear hi243_7 hl243_7
         replace p243 := eq_true p243
         replace q243 := eq_true q243
         go_wp2_with (first | ((with_reducible refine gate_callee (f := 74) rfl ?_); refine goesL_ (some 19) rfl rfl Try.func74 (by kernel_rfl) rfl #[.agg #[.int .i64 ((rd_T107 l0 x3_1).f4.f0), .slice A243_5 ((rd_T107 l0 x3_1).f4.f1).length c243_5, .slice A243_6 ((rd_T107 l0 x3_1).f4.f2).length c243_6, .slice A243_7 ((rd_T107 l0 x3_1).f4.f3).length c243_7]] rfl (by (try simp only [List.map_toArray, List.map_cons, List.map_nil]); first | done | rfl | (simp only [List.length_drop, List.length_take]; rfl)) ?_; (with_reducible refine (dioramaref08_Great.calls k1 ((rd_T107 l0 x3_1).f4.f0) _ _ ((rd_T107 l0 x3_1).f4.f1) _ _ ((rd_T107 l0 x3_1).f4.f2) _ _ ((rd_T107 l0 x3_1).f4.f3) false _ ?side1 ?side2 ?side3 ?side4 ?side5 ?side6 A6.out).mono ?_); (case side1 => repeat (first | exact (Kd.C_below HR243_5.out HB.out) | (with_reducible refine Kd.C_alloc ?_ _) | (with_reducible refine Kd.C_drewN ?_ _) | (with_reducible refine Kd.C_drew ?_))); (case side2 => exact HC243_5.out); (case side3 => repeat (first | exact (Kd.C_below HR243_6.out HB.out) | (with_reducible refine Kd.C_alloc ?_ _) | (with_reducible refine Kd.C_drewN ?_ _) | (with_reducible refine Kd.C_drew ?_))); (case side4 => exact HC243_6.out); (case side5 => repeat (first | exact (Kd.C_below HR243_7.out HB.out) | (with_reducible refine Kd.C_alloc ?_ _) | (with_reducible refine Kd.C_drewN ?_ _) | (with_reducible refine Kd.C_drew ?_))); (case side6 => exact HC243_7.out); rintro e w10 ⟨rfl, hb⟩; refine ⟨_, rfl, ?_⟩; have n0_ := Aside0.mk (below_step (by repeat (first | (with_reducible first | exact HB.out | apply below_alloc | apply pw_below_drewN | apply below_drew1) | exact HB.out)) hb); clear HB; have HB := n0_; clear n0_; (try clear hb); (try clear hb2); (try clear hk); (try clear hi); have p245 : 0 ≤ (x3_1 : Int) := of_decide_eq_true (by first | (with_reducible assumption) | assumption); have q245 : x3_1 < (l0.length : Int) := of_decide_eq_true (by first | (with_reducible assumption) | assumption); obtain ⟨ad245, A245_2, c245_2, A245_3, c245_3, A245_5, c245_5, A245_6, c245_6, A245_7, c245_7, e245, hx245_0, hx245_1, hx245_2, hx245_3, hx245_4, hx245_5, hx245_6, hx245_7, hl245_2, hi245_2, hl245_3, hi245_3, hl245_5, hi245_5, hl245_6, hi245_6, hl245_7, hi245_7⟩ := at_T107 HR0.out x3_1 p245 q245; obtain rfl : ad243 = ad245 := (by injection e245); replace hx245_0 := kpz HB.out hx245_0; replace hx245_1 := kpz HB.out hx245_1; replace hx245_2 := kpz HB.out hx245_2; replace hx245_3 := kpz HB.out hx245_3; replace hx245_4 := kpz HB.out hx245_4; replace hx245_5 := kpz HB.out hx245_5; replace hx245_6 := kpz HB.out hx245_6; replace hx245_7 := kpz HB.out hx245_7; have HR245_2 := Aside0.mk hi245_2; have HC245_2 := Aside0.mk hl245_2; clear hi245_2 hl245_2; have HR245_3 := Aside0.mk hi245_3; have HC245_3 := Aside0.mk hl245_3; clear hi245_3 hl245_3; have HR245_5 := Aside0.mk hi245_5; have HC245_5 := Aside0.mk hl245_5; clear hi245_5 hl245_5; have HR245_6 := Aside0.mk hi245_6; have HC245_6 := Aside0.mk hl245_6; clear hi245_6 hl245_6; have HR245_7 := Aside0.mk hi245_7; have HC245_7 := Aside0.mk hl245_7; clear hi245_7 hl245_7; replace p245 := eq_true p245; replace q245 := eq_true q245))
         go_meet
         case rel => exact ⟨_, (true), (by first | rfl | (simp; done) | (simp [*]; done)), H', ⟨by have := HK1.out; first | omega | exact Nat.le_refl _⟩, ⟨by repeat (first | (with_reducible first | exact HB.out | apply below_alloc | apply pw_below_drewN | apply below_drew1) | exact HB.out)⟩⟩
        ·rw [if_neg c9] at H
         have c9b0 : decide (50 < (((rd_T107 l0 x3_1).f2).length : Int)) = false := decide_eq_false c9
         have c9b1 : decide (50 < ((rd_T107 l0 x3_1).f2).length) = false := decide_eq_false (by omega)
         clear c9
         have H' := Aside0.mk H
         clear H
         have p243 : 0 ≤ (x3_1 : Int) := of_decide_eq_true (by first | (with_reducible assumption) | assumption)
         have q243 : x3_1 < (l0.length : Int) := of_decide_eq_true (by first | (with_reducible assumption) | assumption)
         obtain ⟨ad243, A243_2, c243_2, A243_3, c243_3, A243_5, c243_5, A243_6, c243_6, A243_7, c243_7, e243, hx243_0, hx243_1, hx243_2, hx243_3, hx243_4, hx243_5, hx243_6, hx243_7, hl243_2, hi243_2, hl243_3, hi243_3, hl243_5, hi243_5, hl243_6, hi243_6, hl243_7, hi243_7⟩ := at_T107 HR0.out x3_1 p243 q243
         cases e243
         replace hx243_0 := kpz HB.out hx243_0
         replace hx243_1 := kpz HB.out hx243_1
         replace hx243_2 := kpz HB.out hx243_2
         replace hx243_3 := kpz HB.out hx243_3
         replace hx243_4 := kpz HB.out hx243_4
         replace hx243_5 := kpz HB.out hx243_5
         replace hx243_6 := kpz HB.out hx243_6
         replace hx243_7 := kpz HB.out hx243_7
         have HR243_2 := Aside0.mk hi243_2
         have HC243_2 := Aside0.mk hl243_2
         clear hi243_2 hl243_2
         have HR243_3 := Aside0.mk hi243_3
         have HC243_3 := Aside0.mk hl243_3
         clear hi243_3 hl243_3
         have HR243_5 := Aside0.mk hi243_5
         have HC243_5 := Aside0.mk hl243_5
         clear hi243_5 hl243_5
         have HR243_6 := Aside0.mk hi243_6
         have HC243_6 := Aside0.mk hl243_6
         clear hi243_6 hl243_6
         have HR243_7 := Aside0.mk hi243_7
         have HC243_7 := Aside0.mk hl243_7
         clear hi243_7 hl243_7
         replace p243 := eq_true p243
         replace q243 := eq_true q243
         go_wp2_with (first | ((with_reducible refine gate_callee (f := 74) rfl ?_); refine goesL_ (some 19) rfl rfl Try.func74 (by kernel_rfl) rfl #[.agg #[.int .i64 ((rd_T107 l0 x3_1).f4.f0), .slice A243_5 ((rd_T107 l0 x3_1).f4.f1).length c243_5, .slice A243_6 ((rd_T107 l0 x3_1).f4.f2).length c243_6, .slice A243_7 ((rd_T107 l0 x3_1).f4.f3).length c243_7]] rfl (by (try simp only [List.map_toArray, List.map_cons, List.map_nil]); first | done | rfl | (simp only [List.length_drop, List.length_take]; rfl)) ?_; (with_reducible refine (dioramaref08_Great.calls k1 ((rd_T107 l0 x3_1).f4.f0) _ _ ((rd_T107 l0 x3_1).f4.f1) _ _ ((rd_T107 l0 x3_1).f4.f2) _ _ ((rd_T107 l0 x3_1).f4.f3) false _ ?side1 ?side2 ?side3 ?side4 ?side5 ?side6 A6.out).mono ?_); (case side1 => repeat (first | exact (Kd.C_below HR243_5.out HB.out) | (with_reducible refine Kd.C_alloc ?_ _) | (with_reducible refine Kd.C_drewN ?_ _) | (with_reducible refine Kd.C_drew ?_))); (case side2 => exact HC243_5.out); (case side3 => repeat (first | exact (Kd.C_below HR243_6.out HB.out) | (with_reducible refine Kd.C_alloc ?_ _) | (with_reducible refine Kd.C_drewN ?_ _) | (with_reducible refine Kd.C_drew ?_))); (case side4 => exact HC243_6.out); (case side5 => repeat (first | exact (Kd.C_below HR243_7.out HB.out) | (with_reducible refine Kd.C_alloc ?_ _) | (with_reducible refine Kd.C_drewN ?_ _) | (with_reducible refine Kd.C_drew ?_))); (case side6 => exact HC243_7.out); rintro e w11 ⟨rfl, hb⟩; refine ⟨_, rfl, ?_⟩; have n0_ := Aside0.mk (below_step (by repeat (first | (with_reducible first | exact HB.out | apply below_alloc | apply pw_below_drewN | apply below_drew1) | exact HB.out)) hb); clear HB; have HB := n0_; clear n0_; (try clear hb); (try clear hb2); (try clear hk); (try clear hi); have p245 : 0 ≤ (x3_1 : Int) := of_decide_eq_true (by first | (with_reducible assumption) | assumption); have q245 : x3_1 < (l0.length : Int) := of_decide_eq_true (by first | (with_reducible assumption) | assumption); obtain ⟨ad245, A245_2, c245_2, A245_3, c245_3, A245_5, c245_5, A245_6, c245_6, A245_7, c245_7, e245, hx245_0, hx245_1, hx245_2, hx245_3, hx245_4, hx245_5, hx245_6, hx245_7, hl245_2, hi245_2, hl245_3, hi245_3, hl245_5, hi245_5, hl245_6, hi245_6, hl245_7, hi245_7⟩ := at_T107 HR0.out x3_1 p245 q245; obtain rfl : ad243 = ad245 := (by injection e245); replace hx245_0 := kpz HB.out hx245_0; replace hx245_1 := kpz HB.out hx245_1; replace hx245_2 := kpz HB.out hx245_2; replace hx245_3 := kpz HB.out hx245_3; replace hx245_4 := kpz HB.out hx245_4; replace hx245_5 := kpz HB.out hx245_5; replace hx245_6 := kpz HB.out hx245_6; replace hx245_7 := kpz HB.out hx245_7; have HR245_2 := Aside0.mk hi245_2; have HC245_2 := Aside0.mk hl245_2; clear hi245_2 hl245_2; have HR245_3 := Aside0.mk hi245_3; have HC245_3 := Aside0.mk hl245_3; clear hi245_3 hl245_3; have HR245_5 := Aside0.mk hi245_5; have HC245_5 := Aside0.mk hl245_5; clear hi245_5 hl245_5; have HR245_6 := Aside0.mk hi245_6; have HC245_6 := Aside0.mk hl245_6; clear hi245_6 hl245_6; have HR245_7 := Aside0.mk hi245_7; have HC245_7 := Aside0.mk hl245_7; clear hi245_7 hl245_7; replace p245 := eq_true p245; replace q245 := eq_true q245; have p246 : 0 ≤ (x3_1 : Int) := of_decide_eq_true (by first | (with_reducible assumption) | assumption); have q246 : x3_1 < (l0.length : Int) := of_decide_eq_true (by first | (with_reducible assumption) | assumption); obtain ⟨ad246, A246_2, c246_2, A246_3, c246_3, A246_5, c246_5, A246_6, c246_6, A246_7, c246_7, e246, hx246_0, hx246_1, hx246_2, hx246_3, hx246_4, hx246_5, hx246_6, hx246_7, hl246_2, hi246_2, hl246_3, hi246_3, hl246_5, hi246_5, hl246_6, hi246_6, hl246_7, hi246_7⟩ := at_T107 HR0.out x3_1 p246 q246; obtain rfl : ad243 = ad246 := (by injection e246); replace hx246_0 := kpz HB.out hx246_0; replace hx246_1 := kpz HB.out hx246_1; replace hx246_2 := kpz HB.out hx246_2; replace hx246_3 := kpz HB.out hx246_3; replace hx246_4 := kpz HB.out hx246_4; replace hx246_5 := kpz HB.out hx246_5; replace hx246_6 := kpz HB.out hx246_6; replace hx246_7 := kpz HB.out hx246_7; have HR246_2 := Aside0.mk hi246_2; have HC246_2 := Aside0.mk hl246_2; clear hi246_2 hl246_2; have HR246_3 := Aside0.mk hi246_3; have HC246_3 := Aside0.mk hl246_3; clear hi246_3 hl246_3; have HR246_5 := Aside0.mk hi246_5; have HC246_5 := Aside0.mk hl246_5; clear hi246_5 hl246_5; have HR246_6 := Aside0.mk hi246_6; have HC246_6 := Aside0.mk hl246_6; clear hi246_6 hl246_6; have HR246_7 := Aside0.mk hi246_7; have HC246_7 := Aside0.mk hl246_7; clear hi246_7 hl246_7; replace p246 := eq_true p246; replace q246 := eq_true q246; have ea_ := Option.some.inj (hx245_2.symm.trans hx246_2); injection ea_ with ea_ en_ ec_; subst ea_; subst ec_; clear en_; have ea_ := Option.some.inj (hx245_3.symm.trans hx246_3); injection ea_ with ea_ en_ ec_; subst ea_; subst ec_; clear en_; have ea_ := Option.some.inj (hx245_5.symm.trans hx246_5); injection ea_ with ea_ en_ ec_; subst ea_; subst ec_; clear en_; have ea_ := Option.some.inj (hx245_6.symm.trans hx246_6); injection ea_ with ea_ en_ ec_; subst ea_; subst ec_; clear en_; have ea_ := Option.some.inj (hx245_7.symm.trans hx246_7); injection ea_ with ea_ en_ ec_; subst ea_; subst ec_; clear en_))
         go_meet
         case rel => exact ⟨_, (decide ((((rd_T107 l0 x3_1).f3).length : Int) > 100)), (by first | rfl | (simp; done) | (simp [*]; done)), H', ⟨by have := HK1.out; first | omega | exact Nat.le_refl _⟩, ⟨by repeat (first | (with_reducible first | exact HB.out | apply below_alloc | apply pw_below_drewN | apply below_drew1) | exact HB.out)⟩⟩
      ·rw [if_neg c5] at H
       exact absurd H (by simp)
     case rest =>
      clear HC4
      try clear c2
      try clear c2b0
      try clear c2b1
      try clear p2
      try clear q2
      try clear hx2
      try clear c3
      try clear c3b0
      try clear c5
      try clear c5b0
      try clear c7
      try clear c9
      try clear c9b0
      try clear c9b1
      try clear hx243_0
      try clear hx243_1
      try clear hx243_2
      try clear hx243_3
      try clear hx243_4
      try clear hx243_5
      try clear hx243_6
      try clear hx243_7
      try clear hx245_0
      try clear hx245_1
      try clear hx245_2
      try clear hx245_3
      try clear hx245_4
      try clear hx245_5
      try clear hx245_6
      try clear hx245_7
      try clear hx246_0
      try clear hx246_1
      try clear hx246_2
      try clear hx246_3
      try clear hx246_4
      try clear hx246_5
      try clear hx246_6
      try clear hx246_7
      try clear p2
      try clear p243
      try clear p245
      try clear p246
      try clear q243
      try clear q245
      try clear q246
      obtain ⟨kq, x37_3, rfl, HA, HJ3, HB⟩ := hcut
      cases kq with
      | zero => exact absurd HA.out (by simp [dioramaref23_Great.j1])
      | succ kj3 =>
       have H := HA.out
       clear HA
       simp only [dioramaref23_Great.j1] at H
       by_cases c12 : x37_3 = true
       ·subst c12
        have H1 : (some true) = some r := by rw [if_pos rfl] at H; exact H
        clear H
        have H := H1
        clear H1
        obtain rfl := Option.some.inj H
        go_wp2
        go_ret
        exact ⟨by first | rfl | (simp [errW_none, errW_some] <;> rfl) | (simp [*, errW_none, errW_some] <;> rfl), by repeat (first | (with_reducible first | exact HB.out | apply below_alloc | apply pw_below_drewN | apply below_drew1) | exact HB.out)⟩
       ·replace c12 := Bool.eq_false_iff.mpr c12
        subst c12
        have H1 : (dioramaref23_Great.l1 kj3 l0 x3_1 0) = some r := by rw [if_neg (show ¬ (false = true) by decide)] at H; exact H
        clear H
        have H := H1
        clear H1
        have H' := Aside0.mk H
        clear H
        go_wp2
        go_loopg [4] kj3 (fun kq v4 w' => ∃ (x4_3 : Int), v4 = .int .i64 x4_3 ∧ Aside0 (dioramaref23_Great.l1 kq l0 x3_1 x4_3 = some r) ∧ Aside0 (kq ≤ kj3) ∧ Aside0 (Below w.heap.size w w'))
        case atStart => exact ⟨(0), (by first | rfl | (simp; done) | (simp [*]; done)), H', ⟨Nat.le_refl _⟩, ⟨by repeat (first | (with_reducible first | exact HB.out | apply below_alloc | apply pw_below_drewN | apply below_drew1) | exact HB.out)⟩⟩
        case round =>
         clear H'
         try clear c1
         try clear c2
         try clear c2b0
         try clear c2b1
         try clear p2
         try clear q2
         try clear hx2
         try clear c3
         try clear c3b0
         try clear c5
         try clear c5b0
         try clear c7
         try clear c9
         try clear c9b0
         try clear c9b1
         try clear c12
         try clear hx243_0
         try clear hx243_1
         try clear hx243_2
         try clear hx243_3
         try clear hx243_4
         try clear hx243_5
         try clear hx243_6
         try clear hx243_7
         try clear hx245_0
         try clear hx245_1
         try clear hx245_2
         try clear hx245_3
         try clear hx245_4
         try clear hx245_5
         try clear hx245_6
         try clear hx245_7
         try clear hx246_0
         try clear hx246_1
         try clear hx246_2
         try clear hx246_3
         try clear hx246_4
         try clear hx246_5
         try clear hx246_6
         try clear hx246_7
         try clear p2
         try clear p243
         try clear p245
         try clear p246
         try clear q2
         try clear q243
         try clear q245
         try clear q246
         obtain ⟨x4_3, rfl, HA, HK3, HB⟩ := hrel
         cases gk with
         | zero => exact absurd HA.out (by simp [dioramaref23_Great.l1])
         | succ k3 =>
          have H := HA.out
          clear HA
          simp only [dioramaref23_Great.l1] at H
          by_cases c13 : 0 ≤ x3_1
          ·rw [if_pos c13] at H
           have c13b0 : decide (0 ≤ x3_1) = true := decide_eq_true c13
           clear c13
           by_cases c14 : x3_1 < (l0.length : Int)
           ·rw [if_pos c14] at H
            have c14b0 : decide (x3_1 < (l0.length : Int)) = true := decide_eq_true c14
            clear c14
            by_cases c15 : x4_3 < (((rd_T107 l0 x3_1).f2).length : Int)
            ·rw [if_pos c15] at H
             have c15b0 : decide (x4_3 < (((rd_T107 l0 x3_1).f2).length : Int)) = true := decide_eq_true c15
             clear c15
             by_cases c16 : 0 ≤ x4_3
             ·rw [if_pos c16] at H
              have c16b0 : decide (0 ≤ x4_3) = true := decide_eq_true c16
              clear c16
              by_cases c17 : (((rd_T127 ((rd_T107 l0 x3_1).f2) x4_3).f3).size : Int) > 500
              ·rw [if_pos c17] at H
               have c17b0 : decide (500 < (((rd_T127 ((rd_T107 l0 x3_1).f2) x4_3).f3).size : Int)) = true := decide_eq_true c17
               have c17b1 : decide (500 < ((rd_T127 ((rd_T107 l0 x3_1).f2) x4_3).f3).size) = true := decide_eq_true (by omega)
               clear c17
               obtain rfl := Option.some.inj H
               have p247 : 0 ≤ (x3_1 : Int) := of_decide_eq_true (by first | (with_reducible assumption) | assumption)
               have q247 : x3_1 < (l0.length : Int) := of_decide_eq_true (by first | (with_reducible assumption) | assumption)
               obtain ⟨ad247, A247_2, c247_2, A247_3, c247_3, A247_5, c247_5, A247_6, c247_6, A247_7, c247_7, e247, hx247_0, hx247_1, hx247_2, hx247_3, hx247_4, hx247_5, hx247_6, hx247_7, hl247_2, hi247_2, hl247_3, hi247_3, hl247_5, hi247_5, hl247_6, hi247_6, hl247_7, hi247_7⟩ := at_T107 HR0.out x3_1 p247 q247
               cases e247
               replace hx247_0 := kpz HB.out hx247_0
               replace hx247_1 := kpz HB.out hx247_1
               replace hx247_2 := kpz HB.out hx247_2
               replace hx247_3 := kpz HB.out hx247_3
               replace hx247_4 := kpz HB.out hx247_4
               replace hx247_5 := kpz HB.out hx247_5
               replace hx247_6 := kpz HB.out hx247_6
               replace hx247_7 := kpz HB.out hx247_7
               have HR247_2 := Aside0.mk hi247_2
               have HC247_2 := Aside0.mk hl247_2
               clear hi247_2 hl247_2
               have HR247_3 := Aside0.mk hi247_3
               have HC247_3 := Aside0.mk hl247_3
               clear hi247_3 hl247_3
               have HR247_5 := Aside0.mk hi247_5
               have HC247_5 := Aside0.mk hl247_5
               clear hi247_5 hl247_5
               have HR247_6 := Aside0.mk hi247_6
               have HC247_6 := Aside0.mk hl247_6
               clear hi247_6 hl247_6
               have HR247_7 := Aside0.mk hi247_7
               have HC247_7 := Aside0.mk hl247_7
               clear hi247_7 hl247_7
               replace p247 := eq_true p247
               replace q247 := eq_true q247
               have p248 : 0 ≤ (x3_1 : Int) := of_decide_eq_true (by first | (with_reducible assumption) | assumption)
               have q248 : x3_1 < (l0.length : Int) := of_decide_eq_true (by first | (with_reducible assumption) | assumption)
               obtain ⟨ad248, A248_2, c248_2, A248_3, c248_3, A248_5, c248_5, A248_6, c248_6, A248_7, c248_7, e248, hx248_0, hx248_1, hx248_2, hx248_3, hx248_4, hx248_5, hx248_6, hx248_7, hl248_2, hi248_2, hl248_3, hi248_3, hl248_5, hi248_5, hl248_6, hi248_6, hl248_7, hi248_7⟩ := at_T107 HR0.out x3_1 p248 q248
               obtain rfl : ad247 = ad248 := (by injection e248)
               replace hx248_0 := kpz HB.out hx248_0
               replace hx248_1 := kpz HB.out hx248_1
               replace hx248_2 := kpz HB.out hx248_2
               replace hx248_3 := kpz HB.out hx248_3
               replace hx248_4 := kpz HB.out hx248_4
               replace hx248_5 := kpz HB.out hx248_5
               replace hx248_6 := kpz HB.out hx248_6
               replace hx248_7 := kpz HB.out hx248_7
               have HR248_2 := Aside0.mk hi248_2
               have HC248_2 := Aside0.mk hl248_2
               clear hi248_2 hl248_2
               have HR248_3 := Aside0.mk hi248_3
               have HC248_3 := Aside0.mk hl248_3
               clear hi248_3 hl248_3
               have HR248_5 := Aside0.mk hi248_5
               have HC248_5 := Aside0.mk hl248_5
               clear hi248_5 hl248_5
               have HR248_6 := Aside0.mk hi248_6
               have HC248_6 := Aside0.mk hl248_6
               clear hi248_6 hl248_6
               have HR248_7 := Aside0.mk hi248_7
               have HC248_7 := Aside0.mk hl248_7
               clear hi248_7 hl248_7
               replace p248 := eq_true p248
               replace q248 := eq_true q248
               have ea_ := Option.some.inj (hx247_2.symm.trans hx248_2)
               injection ea_ with ea_ en_ ec_
               subst ea_
               subst ec_
               clear en_
               have ea_ := Option.some.inj (hx247_3.symm.trans hx248_3)
               injection ea_ with ea_ en_ ec_
               subst ea_
               subst ec_
               clear en_
               have ea_ := Option.some.inj (hx247_5.symm.trans hx248_5)
               injection ea_ with ea_ en_ ec_
               subst ea_
               subst ec_
               clear en_
               have ea_ := Option.some.inj (hx247_6.symm.trans hx248_6)
               injection ea_ with ea_ en_ ec_
               subst ea_
               subst ec_
               clear en_
               have ea_ := Option.some.inj (hx247_7.symm.trans hx248_7)
               injection ea_ with ea_ en_ ec_
               subst ea_
               subst ec_
               clear en_
               have p249 : 0 ≤ (x4_3 : Int) := of_decide_eq_true (by first | (with_reducible assumption) | assumption)
               have q249 : x4_3 < (((rd_T107 l0 x3_1).f2).length : Int) := of_decide_eq_true (by first | (with_reducible assumption) | assumption)
               obtain ⟨ad249, e249, hx249_0, hx249_1, hx249_2, hx249_3⟩ := at_T127 HR248_2.out x4_3 p249 q249
               cases e249
               replace hx249_0 := kpz HB.out hx249_0
               replace hx249_1 := kpz HB.out hx249_1
               replace hx249_2 := kpz HB.out hx249_2
               replace hx249_3 := kpz HB.out hx249_3
               replace p249 := eq_true p249
               replace q249 := eq_true q249
               go_wp2
               go_ret
               exact ⟨by first | rfl | (simp [errW_none, errW_some] <;> rfl) | (simp [*, errW_none, errW_some] <;> rfl), by repeat (first | (with_reducible first | exact HB.out | apply below_alloc | apply pw_below_drewN | apply below_drew1) | exact HB.out)⟩
              ·rw [if_neg c17] at H
               have c17b0 : decide (500 < (((rd_T127 ((rd_T107 l0 x3_1).f2) x4_3).f3).size : Int)) = false := decide_eq_false c17
               have c17b1 : decide (500 < ((rd_T127 ((rd_T107 l0 x3_1).f2) x4_3).f3).size) = false := decide_eq_false (by omega)
               clear c17
               have H' := Aside0.mk H
               clear H
               have p247 : 0 ≤ (x3_1 : Int) := of_decide_eq_true (by first | (with_reducible assumption) | assumption)
               have q247 : x3_1 < (l0.length : Int) := of_decide_eq_true (by first | (with_reducible assumption) | assumption)
               obtain ⟨ad247, A247_2, c247_2, A247_3, c247_3, A247_5, c247_5, A247_6, c247_6, A247_7, c247_7, e247, hx247_0, hx247_1, hx247_2, hx247_3, hx247_4, hx247_5, hx247_6, hx247_7, hl247_2, hi247_2, hl247_3, hi247_3, hl247_5, hi247_5, hl247_6, hi247_6, hl247_7, hi247_7⟩ := at_T107 HR0.out x3_1 p247 q247
               cases e247
               replace hx247_0 := kpz HB.out hx247_0
               replace hx247_1 := kpz HB.out hx247_1
               replace hx247_2 := kpz HB.out hx247_2
               replace hx247_3 := kpz HB.out hx247_3
               replace hx247_4 := kpz HB.out hx247_4
               replace hx247_5 := kpz HB.out hx247_5
               replace hx247_6 := kpz HB.out hx247_6
               replace hx247_7 := kpz HB.out hx247_7
               have HR247_2 := Aside0.mk hi247_2
               have HC247_2 := Aside0.mk hl247_2
               clear hi247_2 hl247_2
               have HR247_3 := Aside0.mk hi247_3
               have HC247_3 := Aside0.mk hl247_3
               clear hi247_3 hl247_3
               have HR247_5 := Aside0.mk hi247_5
               have HC247_5 := Aside0.mk hl247_5
               clear hi247_5 hl247_5
               have HR247_6 := Aside0.mk hi247_6
               have HC247_6 := Aside0.mk hl247_6
               clear hi247_6 hl247_6
               have HR247_7 := Aside0.mk hi247_7
               have HC247_7 := Aside0.mk hl247_7
               clear hi247_7 hl247_7
               replace p247 := eq_true p247
               replace q247 := eq_true q247
               have p248 : 0 ≤ (x3_1 : Int) := of_decide_eq_true (by first | (with_reducible assumption) | assumption)
               have q248 : x3_1 < (l0.length : Int) := of_decide_eq_true (by first | (with_reducible assumption) | assumption)
               obtain ⟨ad248, A248_2, c248_2, A248_3, c248_3, A248_5, c248_5, A248_6, c248_6, A248_7, c248_7, e248, hx248_0, hx248_1, hx248_2, hx248_3, hx248_4, hx248_5, hx248_6, hx248_7, hl248_2, hi248_2, hl248_3, hi248_3, hl248_5, hi248_5, hl248_6, hi248_6, hl248_7, hi248_7⟩ := at_T107 HR0.out x3_1 p248 q248
               obtain rfl : ad247 = ad248 := (by injection e248)
               replace hx248_0 := kpz HB.out hx248_0
               replace hx248_1 := kpz HB.out hx248_1
               replace hx248_2 := kpz HB.out hx248_2
               replace hx248_3 := kpz HB.out hx248_3
               replace hx248_4 := kpz HB.out hx248_4
               replace hx248_5 := kpz HB.out hx248_5
               replace hx248_6 := kpz HB.out hx248_6
               replace hx248_7 := kpz HB.out hx248_7
               have HR248_2 := Aside0.mk hi248_2
               have HC248_2 := Aside0.mk hl248_2
               clear hi248_2 hl248_2
               have HR248_3 := Aside0.mk hi248_3
               have HC248_3 := Aside0.mk hl248_3
               clear hi248_3 hl248_3
               have HR248_5 := Aside0.mk hi248_5
               have HC248_5 := Aside0.mk hl248_5
               clear hi248_5 hl248_5
               have HR248_6 := Aside0.mk hi248_6
               have HC248_6 := Aside0.mk hl248_6
               clear hi248_6 hl248_6
               have HR248_7 := Aside0.mk hi248_7
               have HC248_7 := Aside0.mk hl248_7
               clear hi248_7 hl248_7
               replace p248 := eq_true p248
               replace q248 := eq_true q248
               have ea_ := Option.some.inj (hx247_2.symm.trans hx248_2)
               injection ea_ with ea_ en_ ec_
               subst ea_
               subst ec_
               clear en_
               have ea_ := Option.some.inj (hx247_3.symm.trans hx248_3)
               injection ea_ with ea_ en_ ec_
               subst ea_
               subst ec_
               clear en_
               have ea_ := Option.some.inj (hx247_5.symm.trans hx248_5)
               injection ea_ with ea_ en_ ec_
               subst ea_
               subst ec_
               clear en_
               have ea_ := Option.some.inj (hx247_6.symm.trans hx248_6)
               injection ea_ with ea_ en_ ec_
               subst ea_
               subst ec_
               clear en_
               have ea_ := Option.some.inj (hx247_7.symm.trans hx248_7)
               injection ea_ with ea_ en_ ec_
               subst ea_
               subst ec_
               clear en_
               have p249 : 0 ≤ (x4_3 : Int) := of_decide_eq_true (by first | (with_reducible assumption) | assumption)
               have q249 : x4_3 < (((rd_T107 l0 x3_1).f2).length : Int) := of_decide_eq_true (by first | (with_reducible assumption) | assumption)
               obtain ⟨ad249, e249, hx249_0, hx249_1, hx249_2, hx249_3⟩ := at_T127 HR248_2.out x4_3 p249 q249
               cases e249
               replace hx249_0 := kpz HB.out hx249_0
               replace hx249_1 := kpz HB.out hx249_1
               replace hx249_2 := kpz HB.out hx249_2
               replace hx249_3 := kpz HB.out hx249_3
               replace p249 := eq_true p249
               replace q249 := eq_true q249
               go_wp2
               go_roundg k3
               case measure => have := HK1.out; have := HJ3.out; have := HK3.out; omega
               case rel => exact ⟨(wrap64 (x4_3 + 1)), (by first | rfl | (simp; done) | (simp [*]; done)), H', ⟨by have := HK1.out; have := HJ3.out; have := HK3.out; omega⟩, ⟨by repeat (first | (with_reducible first | exact HB.out | apply below_alloc | apply pw_below_drewN | apply below_drew1) | exact HB.out)⟩⟩
             ·rw [if_neg c16] at H
              exact absurd H (by simp)
            ·rw [if_neg c15] at H
             have c15b0 : decide (x4_3 < (((rd_T107 l0 x3_1).f2).length : Int)) = false := decide_eq_false c15
             clear c15
             have H' := Aside0.mk H
             clear H
             have p247 : 0 ≤ (x3_1 : Int) := of_decide_eq_true (by first | (with_reducible assumption) | assumption)
             have q247 : x3_1 < (l0.length : Int) := of_decide_eq_true (by first | (with_reducible assumption) | assumption)
             obtain ⟨ad247, A247_2, c247_2, A247_3, c247_3, A247_5, c247_5, A247_6, c247_6, A247_7, c247_7, e247, hx247_0, hx247_1, hx247_2, hx247_3, hx247_4, hx247_5, hx247_6, hx247_7, hl247_2, hi247_2, hl247_3, hi247_3, hl247_5, hi247_5, hl247_6, hi247_6, hl247_7, hi247_7⟩ := at_T107 HR0.out x3_1 p247 q247
             cases e247
             replace hx247_0 := kpz HB.out hx247_0
             replace hx247_1 := kpz HB.out hx247_1
             replace hx247_2 := kpz HB.out hx247_2
             replace hx247_3 := kpz HB.out hx247_3
             replace hx247_4 := kpz HB.out hx247_4
             replace hx247_5 := kpz HB.out hx247_5
             replace hx247_6 := kpz HB.out hx247_6
             replace hx247_7 := kpz HB.out hx247_7
             have HR247_2 := Aside0.mk hi247_2
             have HC247_2 := Aside0.mk hl247_2
             clear hi247_2 hl247_2
             have HR247_3 := Aside0.mk hi247_3
             have HC247_3 := Aside0.mk hl247_3
             clear hi247_3 hl247_3
             have HR247_5 := Aside0.mk hi247_5
             have HC247_5 := Aside0.mk hl247_5
             clear hi247_5 hl247_5
             have HR247_6 := Aside0.mk hi247_6
             have HC247_6 := Aside0.mk hl247_6
             clear hi247_6 hl247_6
             have HR247_7 := Aside0.mk hi247_7
             have HC247_7 := Aside0.mk hl247_7
             clear hi247_7 hl247_7
             replace p247 := eq_true p247
             replace q247 := eq_true q247
             go_wp2
             go_roundg k3
             case measure => have := HK1.out; have := HJ3.out; have := HK3.out; omega
             case rel => exact ⟨(wrap64 (x3_1 + 1)), (by first | rfl | (simp; done) | (simp [*]; done)), H', ⟨by have := HK1.out; have := HJ3.out; have := HK3.out; omega⟩, ⟨by repeat (first | (with_reducible first | exact HB.out | apply below_alloc | apply pw_below_drewN | apply below_drew1) | exact HB.out)⟩⟩
           ·rw [if_neg c14] at H
            exact absurd H (by simp)
          ·rw [if_neg c13] at H
           exact absurd H (by simp)
    ·rw [if_neg c3] at H
     have c3b0 : decide (x3_1 < (l0.length : Int)) = false := decide_eq_false c3
     clear c3
     obtain rfl := Option.some.inj H
     go_wp2
     go_ret
     exact ⟨by first | rfl | (simp [errW_none, errW_some] <;> rfl) | (simp [*, errW_none, errW_some] <;> rfl), by repeat (first | (with_reducible first | exact HB.out | apply below_alloc | apply pw_below_drewN | apply below_drew1) | exact HB.out)⟩
def varint_Put.l0 : Nat → Int → List Int → Option (ByteArray)
 | 0, _, _ => none
 | k + 1, x0, x3 => if x0 ≥ 128 then (if x3.length < 140737488355328 then (varint_Put.l0 k (x0 / 128) (x3 ++ [Go.bits .or .u8 ((x0) % 256) 128])) else (none)) else (if x3.length < 140737488355328 then (some (strOfNums (x3 ++ [(x0) % 256]))) else (none))
def varint_Put.f (k : Nat) (a0 : Int) : Option (ByteArray) := varint_Put.l0 k a0 ([] : List Int)
set_option maxHeartbeats 8000000 in
set_option maxRecDepth 100000 in
theorem varint_Put.calls (k : Nat) (a0 : Int) (r : ByteArray) (w : World) (h : varint_Put.f k a0 = some r) :
  Calls Try.prog 46 #[.int .u64 a0] w fun e w' => e = .returned (.string r) ∧ Below w.heap.size w w' := by
 have HB := Aside0.mk (Below.refl w.heap.size w)
 have H : (varint_Put.l0 k a0 ([] : List Int)) = some r := h
 clear h
 have H' := Aside0.mk H
 clear H
 go_enter Try.func46, Try.ntmps46
 go_wp2
 go_loopg [0, 3] k (fun kq v0 v3 w' => ∃ (x0_1 : Int) (x3_1 : List Int), v0 = .int .u64 x0_1 ∧ Aside0 (varint_Put.l0 kq x0_1 x3_1 = some r) ∧ Aside0 (kq ≤ k) ∧ Aside0 (Kd.R (Kd.int .u8) 5 w' w.heap.size (fun _ => True) v3 x3_1) ∧ Aside0 (Below w.heap.size w w'))
 case atStart => exact ⟨(a0), (([] : List Int)), (by first | rfl | (simp; done) | (simp [*]; done)), H', ⟨Nat.le_refl _⟩, ⟨by first | exact Kd.R_nil _ _ _ _ _ | exact Kd.N_nil _ _ _ _ _ | exact Kd.V_nil _ _ _ _ _ | exact Kd.Q_nil _ _ _ _ _ | exact Kd.S_nil _ _ _ _ _⟩, ⟨by repeat (first | (with_reducible first | exact HB.out | apply below_alloc | apply pw_below_drewN | apply below_drew1) | exact HB.out)⟩⟩
 case round =>
  clear H'
  obtain ⟨x0_1, x3_1, rfl, HA, HK1, HO_3, HB⟩ := hrel
  cases gk with
  | zero => exact absurd HA.out (by simp [varint_Put.l0])
  | succ k1 =>
   have H := HA.out
   clear HA
   simp only [varint_Put.l0] at H
   by_cases c2 : x0_1 ≥ 128
   ·rw [if_pos c2] at H
    have c2b0 : decide (128 ≤ x0_1) = true := decide_eq_true c2
    clear c2
    by_cases c3 : x3_1.length < 140737488355328
    ·rw [if_pos c3] at H
     have LMc3 := Aside0.mk c3
     clear c3
     obtain ⟨y250, hy250⟩ : ∃ y_ : List Int, y_ = (x3_1 ++ [Go.bits .or .u8 ((x0_1) % 256) 128]) := ⟨_, rfl⟩
     replace H : (varint_Put.l0 k1 (x0_1 / 128) y250) = some r := by first | (rw [hy250]; with_reducible exact H) | (have H2_ := (Option.bind_some _ _).symm.trans H; rw [hy250]; with_reducible exact H2_) | (have H2_ := (Option.bind_some _ _).symm.trans H; with_reducible exact H2_) | with_reducible exact H | (rw [hy250]; exact H) | exact H
     have Ny250 := Aside0.mk hy250
     clear hy250
     have H' := Aside0.mk H
     clear H
     go_wp2_with (first | ((with_reducible refine gate_builtin (b := .append) (xs := #[.tmp 6, .tmp 10]) rfl ?_); at_builtin; refine Kd.R_append (Kd.int .u8) (w0 := w) w.heap.size rfl (.tmp 6) (.tmp 10) 72 5 (.int .u8 0) 1 rfl Try.underlying72 info5 rfl (by decide) (by omega) u3 x3_1 (Go.bits .or .u8 ((x0_1) % 256) 128) [.int .u8 (Go.bits .or .u8 ((x0_1) % 256) 128)] (fun _ => True) (fun _ => False) rfl rfl ?aP (fun _ hk => hk.elim) ?aF ?aO ?aB ?aS ?aL ?_; (case aP => exact rfl); (case aB => exact (by repeat (first | (with_reducible first | exact HB.out | apply below_alloc | apply pw_below_drewN | apply below_drew1) | exact HB.out))); (case aF => exact (fun _ _ => trivial)); (case aO => exact (by (with_reducible repeat (first | apply Kd.R_alloc | apply Kd.R_drewN | apply Kd.R_drew)); exact HO_3.out)); (case aS => exact (below_size (by repeat (first | (with_reducible first | exact HB.out | apply below_alloc | apply pw_below_drewN | apply below_drew1) | exact HB.out)))); (case aL => have := LMc3.out; omega); intro v251 w4 ho hb hg hat; rw [← Ny250.out] at ho; have n0_ := Aside0.mk (hb); have n1_ := Aside0.mk (ho); clear HB; clear HO_3; have HB := n0_; have HO252 := n1_; clear n0_ n1_; clear ho hb hg hat))
     go_roundg k1
     case measure => have := HK1.out; omega
     case rel => exact ⟨(x0_1 / 128), (y250), (by first | rfl | (simp; done) | (simp [*]; done)), H', ⟨by have := HK1.out; omega⟩, ⟨by (with_reducible repeat (first | apply Kd.R_alloc | apply Kd.R_drewN | apply Kd.R_drew)); exact HO252.out⟩, ⟨by repeat (first | (with_reducible first | exact HB.out | apply below_alloc | apply pw_below_drewN | apply below_drew1) | exact HB.out)⟩⟩
    ·rw [if_neg c3] at H
     exact absurd H (by simp)
   ·rw [if_neg c2] at H
    have c2b0 : decide (128 ≤ x0_1) = false := decide_eq_false c2
    clear c2
    by_cases c5 : x3_1.length < 140737488355328
    ·rw [if_pos c5] at H
     have LMc5 := Aside0.mk c5
     clear c5
     obtain ⟨y253, hy253⟩ : ∃ y_ : List Int, y_ = (x3_1 ++ [(x0_1) % 256]) := ⟨_, rfl⟩
     replace H : (some (strOfNums y253)) = some r := by first | (rw [hy253]; with_reducible exact H) | (have H2_ := (Option.bind_some _ _).symm.trans H; rw [hy253]; with_reducible exact H2_) | (have H2_ := (Option.bind_some _ _).symm.trans H; with_reducible exact H2_) | with_reducible exact H | (rw [hy253]; exact H) | exact H
     have Ny253 := Aside0.mk hy253
     clear hy253
     obtain rfl := Option.some.inj H
     go_wp2_with (first | ((with_reducible refine gate_builtin (b := .append) (xs := #[.tmp 14, .tmp 17]) rfl ?_); at_builtin; refine Kd.R_append (Kd.int .u8) (w0 := w) w.heap.size rfl (.tmp 14) (.tmp 17) 72 5 (.int .u8 0) 1 rfl Try.underlying72 info5 rfl (by decide) (by omega) u3 x3_1 ((x0_1) % 256) [.int .u8 ((x0_1) % 256)] (fun _ => True) (fun _ => False) rfl rfl ?aP (fun _ hk => hk.elim) ?aF ?aO ?aB ?aS ?aL ?_; (case aP => exact rfl); (case aB => exact (by repeat (first | (with_reducible first | exact HB.out | apply below_alloc | apply pw_below_drewN | apply below_drew1) | exact HB.out))); (case aF => exact (fun _ _ => trivial)); (case aO => exact (by (with_reducible repeat (first | apply Kd.R_alloc | apply Kd.R_drewN | apply Kd.R_drew)); exact HO_3.out)); (case aS => exact (below_size (by repeat (first | (with_reducible first | exact HB.out | apply below_alloc | apply pw_below_drewN | apply below_drew1) | exact HB.out)))); (case aL => have := LMc5.out; omega); intro v254 w6 ho hb hg hat; rw [← Ny253.out] at ho; have n0_ := Aside0.mk (hb); have n1_ := Aside0.mk (ho); clear HB; clear HO_3; have HB := n0_; have HO255 := n1_; clear n0_ n1_; clear ho hb hg hat; have hcv7 := own_string (P := Try.prog) Try.underlying72 Try.underlying5 Try.underlying9 (Kd.own_of_R HO255.out)))
     go_ret
     exact ⟨by first | rfl | (simp [errW_none, errW_some] <;> rfl) | (simp [*, errW_none, errW_some] <;> rfl), by repeat (first | (with_reducible first | exact HB.out | apply below_alloc | apply pw_below_drewN | apply below_drew1) | exact HB.out)⟩
    ·rw [if_neg c5] at H
     exact absurd H (by simp)
end Go.Proofs.Ytdjpelcdijpihaa.PrintF
