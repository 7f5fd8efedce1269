/- A part of the proof of the claim: what it uses of the text PrintF14 (printed by xprint.py). -/
import Derived.Test.YtdjpelcdijpihaaShort
import Derived.Test.YtdjpelcdijpihaaXPrintF0
import Derived.Test.YtdjpelcdijpihaaXPrintF8
import Derived.Test.YtdjpelcdijpihaaXHandPut
import Derived.Test.YtdjpelcdijpihaaXHandRefPatch
namespace Go.Proofs.Ytdjpelcdijpihaa.PrintF
open Go.Proofs.Ytdjpelcdijpihaa.Print
open Go.RowKit Go.Proofs.YtdjpelcdijpihaaW.PrintWords Go.Proofs.YtdjpelcdijpihaaW.PrintLast Go.Proofs.YtdjpelcdijpihaaW.PrintMore
attribute [local go_sem] min2_int min_two
set_option linter.unusedVariables false
set_option linter.unusedSimpArgs false
def dioramalaw24_PatchPuts.j0 : Nat → Bool → Int → Int → Int → List (S107) → ByteArray → Option (Bool)
 | 0, _, _, _, _, _, _ => none
 | k + 1, x12, x361000, x361001, x361002, x361003, x361004 => if x12 = true then ((dioramalaw24_awake.f k).bind fun t363 => (some t363)) else ((patch_Put.f x361000 x361001 x361002 x361003 x361004).bind fun bt364 => ((dioramaref24_Put.f x361000 x361001 x361002 x361003 x361004).bind fun bt366 => (if bt364.1.toList = bt366.1.toList then (some (bt364.2 == bt366.2)) else (some false))))
def dioramalaw24_PatchPuts.f (k : Nat) (a0_0 : Int) (a0_1 : Int) (a0_2 : Int) (l0_3 : List (S107)) (a0_4 : ByteArray) : Option (Bool) := (dioramalaw24_awake.f k).bind fun t361 => (if t361 = true then ((dioramalaw24_great.f k a0_0 a0_1 a0_2 l0_3 a0_4).bind fun t362 => (dioramalaw24_PatchPuts.j0 k t362 a0_0 a0_1 a0_2 l0_3 a0_4)) else (dioramalaw24_PatchPuts.j0 k true a0_0 a0_1 a0_2 l0_3 a0_4))
set_option maxHeartbeats 8000000 in
set_option maxRecDepth 100000 in
theorem dioramalaw24_PatchPuts.calls (k : Nat) (a0_0 : Int) (a0_1 : Int) (a0_2 : Int) (A0_3 : Option Addr) (c0_3 : Nat) (l0_3 : List (S107)) (a0_4 : ByteArray) (r : Bool) (w : World) (hr0_3 : Kd.C k107 w A0_3 l0_3.length l0_3) (hc0_3 : l0_3.length ≤ c0_3) (h : dioramalaw24_PatchPuts.f k a0_0 a0_1 a0_2 l0_3 a0_4 = some r) :
  Calls Try.prog 14 #[.agg #[.int .u32 a0_0, .int .i64 a0_1, .int .i64 a0_2, .slice A0_3 l0_3.length c0_3, .string a0_4]] w fun e w' => e = .returned (.bool r) ∧ Below w.heap.size w w' := by
 have hu57 := Try.underlying57
 have HR0_3 := Aside0.mk hr0_3
 have HC0_3 := Aside0.mk hc0_3
 clear hr0_3 hc0_3
 have HB := Aside0.mk (Below.refl w.heap.size w)
 have H : ((dioramalaw24_awake.f k).bind fun t361 => (if t361 = true then ((dioramalaw24_great.f k a0_0 a0_1 a0_2 l0_3 a0_4).bind fun t362 => (dioramalaw24_PatchPuts.j0 k t362 a0_0 a0_1 a0_2 l0_3 a0_4)) else (dioramalaw24_PatchPuts.j0 k true a0_0 a0_1 a0_2 l0_3 a0_4))) = some r := h
 clear h
 have HC2 := Aside0.mk H
 clear H
 go_enter Try.func14, Try.ntmps14
 go_upto_region 1 with (first | ((with_reducible refine gate_dst (N := 1) rfl ?_); refine box_event ?hg (N := 1) ?hd (cs := #[.int .u32 a0_0, .int .i64 a0_1, .int .i64 a0_2, .slice A0_3 l0_3.length c0_3, .string a0_4]) (t := 57) ?hr ?_; (case hd => rfl); (case hg => rfl); (case hr => first | (go_simp; done) | (go_simp; rfl)); intro gb360 hg w3 hbox hb; have n0_ := Aside0.mk (below_step (by repeat (first | (with_reducible first | exact HB.out | apply below_alloc | apply pw_below_drewN | apply below_drew1) | exact HB.out)) hb); have n1_ := Aside0.mk (hbox); have n2_ := Aside0.mk ((by rw [hg]; exact (below_size (by repeat (first | (with_reducible first | exact HB.out | apply below_alloc | apply pw_below_drewN | apply below_drew1) | exact HB.out))) : w.heap.size ≤ gb360)); have n3_ := Aside0.mk ((by rw [hg]; exact (below_size (by repeat (first | (with_reducible first | exact HB.out | apply below_alloc | apply pw_below_drewN | apply below_drew1) | exact HB.out))) : w.heap.size ≤ gb360)); clear HB; have HB := n0_; have BK360 := n1_; have GW360 := n2_; have GE360 := n3_; clear n0_ n1_ n2_ n3_; clear hb hbox hg))
 (try simp only [Act.put, zq1, zq2, zq3])
 go_cut [12] (fun v12 wc => ∃ (kq : Nat) (x12_1 : Bool), v12 = .bool x12_1 ∧ Aside0 (dioramalaw24_PatchPuts.j0 kq x12_1 a0_0 a0_1 a0_2 l0_3 a0_4 = some r) ∧ Aside0 (kq ≤ k) ∧ Aside0 (wc.heap[gb360]? = some (.cells #[.int .u32 a0_0, .int .i64 a0_1, .int .i64 a0_2, (.slice A0_3 l0_3.length c0_3), .string a0_4] 57 (0, 0))) ∧ Aside0 (Below w.heap.size w wc))
 case first =>
  have H := HC2.out
  clear HC2
  replace H := Option.bind_eq_some_iff.mp H
  obtain ⟨t361, A40, H⟩ := H
  replace H : (if t361 = true then ((dioramalaw24_great.f k a0_0 a0_1 a0_2 l0_3 a0_4).bind fun t362 => (dioramalaw24_PatchPuts.j0 k t362 a0_0 a0_1 a0_2 l0_3 a0_4)) else (dioramalaw24_PatchPuts.j0 k true a0_0 a0_1 a0_2 l0_3 a0_4)) = some r := H
  have A4 := Aside0.mk A40
  clear A40
  by_cases c5 : t361 = true
  ·subst c5
   have H1 : ((dioramalaw24_great.f k a0_0 a0_1 a0_2 l0_3 a0_4).bind fun t362 => (dioramalaw24_PatchPuts.j0 k t362 a0_0 a0_1 a0_2 l0_3 a0_4)) = some r := by rw [if_pos rfl] at H; exact H
   clear H
   have H := H1
   clear H1
   replace H := Option.bind_eq_some_iff.mp H
   obtain ⟨t362, A60, H⟩ := H
   replace H : (dioramalaw24_PatchPuts.j0 k t362 a0_0 a0_1 a0_2 l0_3 a0_4) = some r := H
   have A6 := Aside0.mk A60
   clear A60
   have H' := Aside0.mk H
   clear H
   go_wp2_with (first | ((with_reducible refine gate_callee (f := 35) rfl ?_); refine goesL_ (some 7) rfl rfl Try.func35 (by kernel_rfl) rfl #[] rfl (by (try simp only [List.map_toArray, List.map_cons, List.map_nil]); first | done | rfl | (simp only [List.length_drop, List.length_take]; rfl)) ?_; (with_reducible refine (dioramalaw24_awake.calls k  true _ A4.out).mono ?_); rintro e w7 ⟨rfl, hb⟩; refine ⟨_, rfl, ?_⟩; have n0_ := Aside0.mk (blk_below (g := gb360) (o := .cells #[.int .u32 a0_0, .int .i64 a0_1, .int .i64 a0_2, .slice A0_3 l0_3.length c0_3, .string a0_4] 57 (0, 0)) (by (with_reducible repeat (first | refine blk_drewN ?_ _ | refine blk_drew ?_ | refine blk_alloc ?_ _)); exact BK360.out) hb); have n1_ := Aside0.mk (below_step (by repeat (first | (with_reducible first | exact HB.out | apply below_alloc | apply pw_below_drewN | apply below_drew1 | refine below_set ?_ GE360.out) | exact HB.out)) hb); clear BK360; clear HB; have BK360 := n0_; have HB := n1_; clear n0_ n1_; (try clear hb); (try clear hb2); (try clear hk); (try clear hi); have hcz8_0 : w7.cell? ⟨gb360, 0, none⟩ = some (.int .u32 a0_0) := (blk_cell BK360.out 0).trans rfl; have hcz8_1 : w7.cell? ⟨gb360, 1, none⟩ = some (.int .i64 a0_1) := (blk_cell BK360.out 1).trans rfl; have hcz8_2 : w7.cell? ⟨gb360, 2, none⟩ = some (.int .i64 a0_2) := (blk_cell BK360.out 2).trans rfl; have hcz8_3 : w7.cell? ⟨gb360, 3, none⟩ = some (.slice A0_3 l0_3.length c0_3) := (blk_cell BK360.out 3).trans rfl; have hcz8_4 : w7.cell? ⟨gb360, 4, none⟩ = some (.string a0_4) := (blk_cell BK360.out 4).trans rfl; have hfz8_0 := blk_frozen BK360.out 0; have hfz8_1 := blk_frozen BK360.out 1; have hfz8_2 := blk_frozen BK360.out 2; have hfz8_3 := blk_frozen BK360.out 3; have hfz8_4 := blk_frozen BK360.out 4) | (go_at_call 36; (with_reducible refine (dioramalaw24_great.calls k a0_0 a0_1 a0_2 _ _ l0_3 a0_4 t362 _ ?side1 ?side2 A6.out).mono ?_); (case side1 => repeat (first | exact (Kd.C_below HR0_3.out HB.out) | (with_reducible refine Kd.C_alloc ?_ _) | (with_reducible refine Kd.C_drewN ?_ _) | (with_reducible refine Kd.C_drew ?_))); (case side2 => exact HC0_3.out); rintro e w9 ⟨rfl, hb⟩; have n0_ := Aside0.mk (blk_below (g := gb360) (o := .cells #[.int .u32 a0_0, .int .i64 a0_1, .int .i64 a0_2, .slice A0_3 l0_3.length c0_3, .string a0_4] 57 (0, 0)) (by (with_reducible repeat (first | refine blk_drewN ?_ _ | refine blk_drew ?_ | refine blk_alloc ?_ _)); exact BK360.out) hb); have n1_ := Aside0.mk (below_step (by repeat (first | (with_reducible first | exact HB.out | apply below_alloc | apply pw_below_drewN | apply below_drew1 | refine below_set ?_ GE360.out) | exact HB.out)) hb); clear BK360; clear HB; have BK360 := n0_; have HB := n1_; clear n0_ n1_; (try clear hb); (try clear hb2); (try clear hk); (try clear hi)))
   go_meet
   case rel => exact ⟨_, (t362), (by first | rfl | (simp; done) | (simp [*]; done)), H', ⟨by first | omega | exact Nat.le_refl _⟩, ⟨by (with_reducible repeat (first | refine blk_drewN ?_ _ | refine blk_drew ?_ | refine blk_alloc ?_ _)); exact BK360.out⟩, ⟨by repeat (first | (with_reducible first | exact HB.out | apply below_alloc | apply pw_below_drewN | apply below_drew1 | refine below_set ?_ GE360.out) | exact HB.out)⟩⟩
  ·replace c5 := Bool.eq_false_iff.mpr c5
   subst c5
   have H1 : (dioramalaw24_PatchPuts.j0 k true a0_0 a0_1 a0_2 l0_3 a0_4) = some r := by rw [if_neg (show ¬ (false = true) by decide)] at H; exact H
   clear H
   have H := H1
   clear H1
   have H' := Aside0.mk H
   clear H
   go_wp2_with (first | ((with_reducible refine gate_callee (f := 35) rfl ?_); refine goesL_ (some 7) rfl rfl Try.func35 (by kernel_rfl) rfl #[] rfl (by (try simp only [List.map_toArray, List.map_cons, List.map_nil]); first | done | rfl | (simp only [List.length_drop, List.length_take]; rfl)) ?_; (with_reducible refine (dioramalaw24_awake.calls k  false _ A4.out).mono ?_); rintro e w10 ⟨rfl, hb⟩; refine ⟨_, rfl, ?_⟩; have n0_ := Aside0.mk (blk_below (g := gb360) (o := .cells #[.int .u32 a0_0, .int .i64 a0_1, .int .i64 a0_2, .slice A0_3 l0_3.length c0_3, .string a0_4] 57 (0, 0)) (by (with_reducible repeat (first | refine blk_drewN ?_ _ | refine blk_drew ?_ | refine blk_alloc ?_ _)); exact BK360.out) hb); have n1_ := Aside0.mk (below_step (by repeat (first | (with_reducible first | exact HB.out | apply below_alloc | apply pw_below_drewN | apply below_drew1 | refine below_set ?_ GE360.out) | exact HB.out)) hb); clear BK360; clear HB; have BK360 := n0_; have HB := n1_; clear n0_ n1_; (try clear hb); (try clear hb2); (try clear hk); (try clear hi)))
   go_meet
   case rel => exact ⟨_, (true), (by first | rfl | (simp; done) | (simp [*]; done)), H', ⟨by first | omega | exact Nat.le_refl _⟩, ⟨by (with_reducible repeat (first | refine blk_drewN ?_ _ | refine blk_drew ?_ | refine blk_alloc ?_ _)); exact BK360.out⟩, ⟨by repeat (first | (with_reducible first | exact HB.out | apply below_alloc | apply pw_below_drewN | apply below_drew1 | refine below_set ?_ GE360.out) | exact HB.out)⟩⟩
 case rest =>
  clear HC2
  try clear c1
  try clear p2
  try clear c3
  try clear c5
  try clear hcz8_0
  try clear hcz8_1
  try clear hcz8_2
  try clear hcz8_3
  try clear hcz8_4
  try clear hfz8_0
  try clear hfz8_1
  try clear hfz8_2
  try clear hfz8_3
  try clear hfz8_4
  obtain ⟨kq, x12_1, rfl, HA, HJ1, BK360, HB⟩ := hcut
  cases kq with
  | zero => exact absurd HA.out (by simp [dioramalaw24_PatchPuts.j0])
  | succ kj1 =>
   have H := HA.out
   clear HA
   simp only [dioramalaw24_PatchPuts.j0] at H
   by_cases c11 : x12_1 = true
   ·subst c11
    have H1 : ((dioramalaw24_awake.f kj1).bind fun t363 => (some t363)) = some r := by rw [if_pos rfl] at H; exact H
    clear H
    have H := H1
    clear H1
    replace H := Option.bind_eq_some_iff.mp H
    obtain ⟨t363, A120, H⟩ := H
    replace H : (some t363) = some r := H
    have A12 := Aside0.mk A120
    clear A120
    obtain rfl := Option.some.inj H
    go_wp2_with (first | ((with_reducible refine gate_callee (f := 35) rfl ?_); refine goesL_ (some 13) rfl rfl Try.func35 (by kernel_rfl) rfl #[] rfl (by (try simp only [List.map_toArray, List.map_cons, List.map_nil]); first | done | rfl | (simp only [List.length_drop, List.length_take]; rfl)) ?_; (with_reducible refine (dioramalaw24_awake.calls kj1  t363 _ A12.out).mono ?_); rintro e w13 ⟨rfl, hb⟩; refine ⟨_, rfl, ?_⟩; have n0_ := Aside0.mk (blk_below (g := gb360) (o := .cells #[.int .u32 a0_0, .int .i64 a0_1, .int .i64 a0_2, .slice A0_3 l0_3.length c0_3, .string a0_4] 57 (0, 0)) (by (with_reducible repeat (first | refine blk_drewN ?_ _ | refine blk_drew ?_ | refine blk_alloc ?_ _)); exact BK360.out) hb); have n1_ := Aside0.mk (below_step (by repeat (first | (with_reducible first | exact HB.out | apply below_alloc | apply pw_below_drewN | apply below_drew1 | refine below_set ?_ GE360.out) | exact HB.out)) hb); clear BK360; clear HB; have BK360 := n0_; have HB := n1_; clear n0_ n1_; (try clear hb); (try clear hb2); (try clear hk); (try clear hi)))
    go_ret
    exact ⟨by first | rfl | (simp [errW_none, errW_some] <;> rfl) | (simp [*, errW_none, errW_some] <;> rfl), by repeat (first | (with_reducible first | exact HB.out | apply below_alloc | apply pw_below_drewN | apply below_drew1 | refine below_set ?_ GE360.out) | exact HB.out)⟩
   ·replace c11 := Bool.eq_false_iff.mpr c11
    subst c11
    have H1 : ((patch_Put.f a0_0 a0_1 a0_2 l0_3 a0_4).bind fun bt364 => ((dioramaref24_Put.f a0_0 a0_1 a0_2 l0_3 a0_4).bind fun bt366 => (if bt364.1.toList = bt366.1.toList then (some (bt364.2 == bt366.2)) else (some false)))) = some r := by rw [if_neg (show ¬ (false = true) by decide)] at H; exact H
    clear H
    have H := H1
    clear H1
    replace H := Option.bind_eq_some_iff.mp H
    obtain ⟨⟨t364, t365⟩, A140, H⟩ := H
    replace H : ((dioramaref24_Put.f a0_0 a0_1 a0_2 l0_3 a0_4).bind fun bt366 => (if t364.toList = bt366.1.toList then (some (t365 == bt366.2)) else (some false))) = some r := H
    have A14 := Aside0.mk A140
    clear A140
    replace H := Option.bind_eq_some_iff.mp H
    obtain ⟨⟨t366, t367⟩, A150, H⟩ := H
    replace H : (if t364.toList = t366.toList then (some (t365 == t367)) else (some false)) = some r := H
    have A15 := Aside0.mk A150
    clear A150
    by_cases c16 : t364.toList = t366.toList
    ·rw [if_pos c16] at H
     have c16b0 : (t364.toList == t366.toList) = true := beq_iff_eq.mpr c16
     have c16b1 : (t364.toList != t366.toList) = false := bne_eq_false_iff_eq.mpr c16
     clear c16
     obtain rfl := Option.some.inj H
     have hcz17_0 : wc.cell? ⟨gb360, 0, none⟩ = some (.int .u32 a0_0) := (blk_cell BK360.out 0).trans rfl
     have hcz17_1 : wc.cell? ⟨gb360, 1, none⟩ = some (.int .i64 a0_1) := (blk_cell BK360.out 1).trans rfl
     have hcz17_2 : wc.cell? ⟨gb360, 2, none⟩ = some (.int .i64 a0_2) := (blk_cell BK360.out 2).trans rfl
     have hcz17_3 : wc.cell? ⟨gb360, 3, none⟩ = some (.slice A0_3 l0_3.length c0_3) := (blk_cell BK360.out 3).trans rfl
     have hcz17_4 : wc.cell? ⟨gb360, 4, none⟩ = some (.string a0_4) := (blk_cell BK360.out 4).trans rfl
     have hfz17_0 := blk_frozen BK360.out 0
     have hfz17_1 := blk_frozen BK360.out 1
     have hfz17_2 := blk_frozen BK360.out 2
     have hfz17_3 := blk_frozen BK360.out 3
     have hfz17_4 := blk_frozen BK360.out 4
     go_wp2_with (first | ((with_reducible refine gate_callee (f := 37) rfl ?_); refine goesL_ (some 16) rfl rfl Try.func37 (by kernel_rfl) rfl #[.agg #[.int .u32 a0_0, .int .i64 a0_1, .int .i64 a0_2, .slice A0_3 l0_3.length c0_3, .string a0_4]] rfl (by (try simp only [List.map_toArray, List.map_cons, List.map_nil]); first | done | rfl | (simp only [List.length_drop, List.length_take]; rfl)) ?_; (with_reducible refine (patch_Put.calls a0_0 a0_1 a0_2 _ _ l0_3 a0_4 t364 t365 _ ?side1 ?side2 A14.out).mono ?_); (case side1 => repeat (first | exact (Kd.C_below HR0_3.out HB.out) | (with_reducible refine Kd.C_alloc ?_ _) | (with_reducible refine Kd.C_drewN ?_ _) | (with_reducible refine Kd.C_drew ?_))); (case side2 => exact HC0_3.out); rintro e w18 ⟨rfl, hb⟩; refine ⟨_, rfl, ?_⟩; have n0_ := Aside0.mk (blk_below (g := gb360) (o := .cells #[.int .u32 a0_0, .int .i64 a0_1, .int .i64 a0_2, .slice A0_3 l0_3.length c0_3, .string a0_4] 57 (0, 0)) (by (with_reducible repeat (first | refine blk_drewN ?_ _ | refine blk_drew ?_ | refine blk_alloc ?_ _)); exact BK360.out) hb); have n1_ := Aside0.mk (below_step (by repeat (first | (with_reducible first | exact HB.out | apply below_alloc | apply pw_below_drewN | apply below_drew1 | refine below_set ?_ GE360.out) | exact HB.out)) hb); clear BK360; clear HB; have BK360 := n0_; have HB := n1_; clear n0_ n1_; (try clear hb); (try clear hb2); (try clear hk); (try clear hi); have hcz19_0 : w18.cell? ⟨gb360, 0, none⟩ = some (.int .u32 a0_0) := (blk_cell BK360.out 0).trans rfl; have hcz19_1 : w18.cell? ⟨gb360, 1, none⟩ = some (.int .i64 a0_1) := (blk_cell BK360.out 1).trans rfl; have hcz19_2 : w18.cell? ⟨gb360, 2, none⟩ = some (.int .i64 a0_2) := (blk_cell BK360.out 2).trans rfl; have hcz19_3 : w18.cell? ⟨gb360, 3, none⟩ = some (.slice A0_3 l0_3.length c0_3) := (blk_cell BK360.out 3).trans rfl; have hcz19_4 : w18.cell? ⟨gb360, 4, none⟩ = some (.string a0_4) := (blk_cell BK360.out 4).trans rfl; have hfz19_0 := blk_frozen BK360.out 0; have hfz19_1 := blk_frozen BK360.out 1; have hfz19_2 := blk_frozen BK360.out 2; have hfz19_3 := blk_frozen BK360.out 3; have hfz19_4 := blk_frozen BK360.out 4) | ((with_reducible refine gate_callee (f := 38) rfl ?_); refine goesL_ (some 21) rfl rfl Try.func38 (by kernel_rfl) rfl #[.agg #[.int .u32 a0_0, .int .i64 a0_1, .int .i64 a0_2, .slice A0_3 l0_3.length c0_3, .string a0_4]] rfl (by (try simp only [List.map_toArray, List.map_cons, List.map_nil]); first | done | rfl | (simp only [List.length_drop, List.length_take]; rfl)) ?_; (with_reducible refine (dioramaref24_Put.calls a0_0 a0_1 a0_2 _ _ l0_3 a0_4 t366 t367 _ ?side1 ?side2 A15.out).mono ?_); (case side1 => repeat (first | exact (Kd.C_below HR0_3.out HB.out) | (with_reducible refine Kd.C_alloc ?_ _) | (with_reducible refine Kd.C_drewN ?_ _) | (with_reducible refine Kd.C_drew ?_))); (case side2 => exact HC0_3.out); rintro e w20 ⟨rfl, hb⟩; refine ⟨_, rfl, ?_⟩; have n0_ := Aside0.mk (blk_below (g := gb360) (o := .cells #[.int .u32 a0_0, .int .i64 a0_1, .int .i64 a0_2, .slice A0_3 l0_3.length c0_3, .string a0_4] 57 (0, 0)) (by (with_reducible repeat (first | refine blk_drewN ?_ _ | refine blk_drew ?_ | refine blk_alloc ?_ _)); exact BK360.out) hb); have n1_ := Aside0.mk (below_step (by repeat (first | (with_reducible first | exact HB.out | apply below_alloc | apply pw_below_drewN | apply below_drew1 | refine below_set ?_ GE360.out) | exact HB.out)) hb); clear BK360; clear HB; have BK360 := n0_; have HB := n1_; clear n0_ n1_; (try clear hb); (try clear hb2); (try clear hk); (try clear hi)))
     go_ret
     exact ⟨by first | rfl | (simp [errW_none, errW_some] <;> rfl) | (simp [*, errW_none, errW_some] <;> rfl), by repeat (first | (with_reducible first | exact HB.out | apply below_alloc | apply pw_below_drewN | apply below_drew1 | refine below_set ?_ GE360.out) | exact HB.out)⟩
    ·rw [if_neg c16] at H
     have c16b0 : (t364.toList == t366.toList) = false := beq_eq_false_iff_ne.mpr c16
     have c16b1 : (t364.toList != t366.toList) = true := bne_iff_ne.mpr c16
     obtain rfl := Option.some.inj H
     have hcz21_0 : wc.cell? ⟨gb360, 0, none⟩ = some (.int .u32 a0_0) := (blk_cell BK360.out 0).trans rfl
     have hcz21_1 : wc.cell? ⟨gb360, 1, none⟩ = some (.int .i64 a0_1) := (blk_cell BK360.out 1).trans rfl
     have hcz21_2 : wc.cell? ⟨gb360, 2, none⟩ = some (.int .i64 a0_2) := (blk_cell BK360.out 2).trans rfl
     have hcz21_3 : wc.cell? ⟨gb360, 3, none⟩ = some (.slice A0_3 l0_3.length c0_3) := (blk_cell BK360.out 3).trans rfl
     have hcz21_4 : wc.cell? ⟨gb360, 4, none⟩ = some (.string a0_4) := (blk_cell BK360.out 4).trans rfl
     have hfz21_0 := blk_frozen BK360.out 0
     have hfz21_1 := blk_frozen BK360.out 1
     have hfz21_2 := blk_frozen BK360.out 2
     have hfz21_3 := blk_frozen BK360.out 3
     have hfz21_4 := blk_frozen BK360.out 4
     go_wp2_with (first | ((with_reducible refine gate_callee (f := 37) rfl ?_); refine goesL_ (some 16) rfl rfl Try.func37 (by kernel_rfl) rfl #[.agg #[.int .u32 a0_0, .int .i64 a0_1, .int .i64 a0_2, .slice A0_3 l0_3.length c0_3, .string a0_4]] rfl (by (try simp only [List.map_toArray, List.map_cons, List.map_nil]); first | done | rfl | (simp only [List.length_drop, List.length_take]; rfl)) ?_; (with_reducible refine (patch_Put.calls a0_0 a0_1 a0_2 _ _ l0_3 a0_4 t364 t365 _ ?side1 ?side2 A14.out).mono ?_); (case side1 => repeat (first | exact (Kd.C_below HR0_3.out HB.out) | (with_reducible refine Kd.C_alloc ?_ _) | (with_reducible refine Kd.C_drewN ?_ _) | (with_reducible refine Kd.C_drew ?_))); (case side2 => exact HC0_3.out); rintro e w22 ⟨rfl, hb⟩; refine ⟨_, rfl, ?_⟩; have n0_ := Aside0.mk (blk_below (g := gb360) (o := .cells #[.int .u32 a0_0, .int .i64 a0_1, .int .i64 a0_2, .slice A0_3 l0_3.length c0_3, .string a0_4] 57 (0, 0)) (by (with_reducible repeat (first | refine blk_drewN ?_ _ | refine blk_drew ?_ | refine blk_alloc ?_ _)); exact BK360.out) hb); have n1_ := Aside0.mk (below_step (by repeat (first | (with_reducible first | exact HB.out | apply below_alloc | apply pw_below_drewN | apply below_drew1 | refine below_set ?_ GE360.out) | exact HB.out)) hb); clear BK360; clear HB; have BK360 := n0_; have HB := n1_; clear n0_ n1_; (try clear hb); (try clear hb2); (try clear hk); (try clear hi); have hcz23_0 : w22.cell? ⟨gb360, 0, none⟩ = some (.int .u32 a0_0) := (blk_cell BK360.out 0).trans rfl; have hcz23_1 : w22.cell? ⟨gb360, 1, none⟩ = some (.int .i64 a0_1) := (blk_cell BK360.out 1).trans rfl; have hcz23_2 : w22.cell? ⟨gb360, 2, none⟩ = some (.int .i64 a0_2) := (blk_cell BK360.out 2).trans rfl; have hcz23_3 : w22.cell? ⟨gb360, 3, none⟩ = some (.slice A0_3 l0_3.length c0_3) := (blk_cell BK360.out 3).trans rfl; have hcz23_4 : w22.cell? ⟨gb360, 4, none⟩ = some (.string a0_4) := (blk_cell BK360.out 4).trans rfl; have hfz23_0 := blk_frozen BK360.out 0; have hfz23_1 := blk_frozen BK360.out 1; have hfz23_2 := blk_frozen BK360.out 2; have hfz23_3 := blk_frozen BK360.out 3; have hfz23_4 := blk_frozen BK360.out 4) | ((with_reducible refine gate_callee (f := 38) rfl ?_); refine goesL_ (some 21) rfl rfl Try.func38 (by kernel_rfl) rfl #[.agg #[.int .u32 a0_0, .int .i64 a0_1, .int .i64 a0_2, .slice A0_3 l0_3.length c0_3, .string a0_4]] rfl (by (try simp only [List.map_toArray, List.map_cons, List.map_nil]); first | done | rfl | (simp only [List.length_drop, List.length_take]; rfl)) ?_; (with_reducible refine (dioramaref24_Put.calls a0_0 a0_1 a0_2 _ _ l0_3 a0_4 t366 t367 _ ?side1 ?side2 A15.out).mono ?_); (case side1 => repeat (first | exact (Kd.C_below HR0_3.out HB.out) | (with_reducible refine Kd.C_alloc ?_ _) | (with_reducible refine Kd.C_drewN ?_ _) | (with_reducible refine Kd.C_drew ?_))); (case side2 => exact HC0_3.out); rintro e w24 ⟨rfl, hb⟩; refine ⟨_, rfl, ?_⟩; have n0_ := Aside0.mk (blk_below (g := gb360) (o := .cells #[.int .u32 a0_0, .int .i64 a0_1, .int .i64 a0_2, .slice A0_3 l0_3.length c0_3, .string a0_4] 57 (0, 0)) (by (with_reducible repeat (first | refine blk_drewN ?_ _ | refine blk_drew ?_ | refine blk_alloc ?_ _)); exact BK360.out) hb); have n1_ := Aside0.mk (below_step (by repeat (first | (with_reducible first | exact HB.out | apply below_alloc | apply pw_below_drewN | apply below_drew1 | refine below_set ?_ GE360.out) | exact HB.out)) hb); clear BK360; clear HB; have BK360 := n0_; have HB := n1_; clear n0_ n1_; (try clear hb); (try clear hb2); (try clear hk); (try clear hi)))
     go_ret
     exact ⟨by first | rfl | (simp [errW_none, errW_some] <;> rfl) | (simp [*, errW_none, errW_some] <;> rfl), by repeat (first | (with_reducible first | exact HB.out | apply below_alloc | apply pw_below_drewN | apply below_drew1 | refine below_set ?_ GE360.out) | exact HB.out)⟩
end Go.Proofs.Ytdjpelcdijpihaa.PrintF
