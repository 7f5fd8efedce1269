/- A part of the proof of the claim: what it uses of the text PrintG10 (printed by xprint.py). -/
import Derived.Test.YtdjpelcdijpihaaShort
import Derived.Test.YtdjpelcdijpihaaYHandPatchGet
import Derived.Test.YtdjpelcdijpihaaYHandPut
import Derived.Test.YtdjpelcdijpihaaYHandSame
import Derived.Test.YtdjpelcdijpihaaYPrintF0
import Derived.Test.YtdjpelcdijpihaaYPrintF8
namespace Go.Proofs.Ytdjpelcdijpihaa.PrintF
open Go.Proofs.Ytdjpelcdijpihaa.Print
open Go.RowKit Go.Proofs.YtdjpelcdijpihaaW.PrintWords Go.Proofs.YtdjpelcdijpihaaW.PrintLast Go.Proofs.YtdjpelcdijpihaaW.PrintMore
attribute [local go_sem] max2_int min2_int max_two min_two
set_option linter.unusedVariables false
set_option linter.unusedSimpArgs false
def dioramalaw24_PatchBack.j0 : Nat → Bool → Int → Int → Int → List (S107) → ByteArray → Option (Bool)
 | 0, _, _, _, _, _, _ => none
 | k + 1, x12, x523000, x523001, x523002, x523003, x523004 => if x12 = true then ((dioramalaw24_awake.f k).bind fun t525 => (some t525)) else ((patch_Put.f x523000 x523001 x523002 x523003 x523004).bind fun bt526 => (if bt526.2 = 0 then ((patch_Get.f k bt526.1).bind fun bt528 => (if bt528.2.2.2.2.2 = 0 then ((dioramaref24_Same.f k bt528.1 bt528.2.1 bt528.2.2.1 bt528.2.2.2.1 bt528.2.2.2.2.1 x523000 x523001 x523002 x523003 x523004).bind fun t537 => (some t537)) else (some false))) else (some (bt526.1.toList == ([] : List UInt8)))))
def dioramalaw24_PatchBack.f (k : Nat) (a0_0 : Int) (a0_1 : Int) (a0_2 : Int) (l0_3 : List (S107)) (a0_4 : ByteArray) : Option (Bool) := (dioramalaw24_awake.f k).bind fun t523 => (if t523 = true then ((dioramalaw24_great.f k a0_0 a0_1 a0_2 l0_3 a0_4).bind fun t524 => (dioramalaw24_PatchBack.j0 k t524 a0_0 a0_1 a0_2 l0_3 a0_4)) else (dioramalaw24_PatchBack.j0 k true a0_0 a0_1 a0_2 l0_3 a0_4))
set_option maxHeartbeats 8000000 in
set_option maxRecDepth 100000 in
theorem dioramalaw24_PatchBack.calls (k : Nat) (a0_0 : Int) (a0_1 : Int) (a0_2 : Int) (A0_3 : Option Addr) (c0_3 : Nat) (l0_3 : List (S107)) (a0_4 : ByteArray) (r : Bool) (w : World) (hr0_3 : Kd.C k107 w A0_3 l0_3.length l0_3) (hc0_3 : l0_3.length ≤ c0_3) (h : dioramalaw24_PatchBack.f k a0_0 a0_1 a0_2 l0_3 a0_4 = some r) :
  Calls Try.prog 16 #[.agg #[.int .u32 a0_0, .int .i64 a0_1, .int .i64 a0_2, .slice A0_3 l0_3.length c0_3, .string a0_4]] w fun e w' => e = .returned (.bool r) ∧ Below w.heap.size w w' := by
 have hu57 := Try.underlying57
 have HR0_3 := Aside0.mk hr0_3
 have HC0_3 := Aside0.mk hc0_3
 clear hr0_3 hc0_3
 have HB := Aside0.mk (Below.refl w.heap.size w)
 have H : ((dioramalaw24_awake.f k).bind fun t523 => (if t523 = true then ((dioramalaw24_great.f k a0_0 a0_1 a0_2 l0_3 a0_4).bind fun t524 => (dioramalaw24_PatchBack.j0 k t524 a0_0 a0_1 a0_2 l0_3 a0_4)) else (dioramalaw24_PatchBack.j0 k true a0_0 a0_1 a0_2 l0_3 a0_4))) = some r := h
 clear h
 have HC2 := Aside0.mk H
 clear H
 go_enter Try.func16, Try.ntmps16
 go_upto_region 1 with (first | ((with_reducible refine gate_dst (N := 1) rfl ?_); refine box_event ?hg (N := 1) ?hd (cs := #[.int .u32 a0_0, .int .i64 a0_1, .int .i64 a0_2, .slice A0_3 l0_3.length c0_3, .string a0_4]) (t := 57) ?hr ?_; (case hd => rfl); (case hg => rfl); (case hr => first | (go_simp; done) | (go_simp; rfl)); intro gb522 hg w3 hbox hb; have n0_ := Aside0.mk (below_step (by repeat (first | (with_reducible first | exact HB.out | apply below_alloc | apply pw_below_drewN | apply below_drew1) | exact HB.out)) hb); have n1_ := Aside0.mk (hbox); have n2_ := Aside0.mk ((by rw [hg]; exact (below_size (by repeat (first | (with_reducible first | exact HB.out | apply below_alloc | apply pw_below_drewN | apply below_drew1) | exact HB.out))) : w.heap.size ≤ gb522)); have n3_ := Aside0.mk ((by rw [hg]; exact (below_size (by repeat (first | (with_reducible first | exact HB.out | apply below_alloc | apply pw_below_drewN | apply below_drew1) | exact HB.out))) : w.heap.size ≤ gb522)); clear HB; have HB := n0_; have BK522 := n1_; have GW522 := n2_; have GE522 := n3_; clear n0_ n1_ n2_ n3_; clear hb hbox hg))
 (try simp only [Act.put, zq1, zq2, zq3])
 go_cut [12] (fun v12 wc => ∃ (kq : Nat) (x12_1 : Bool), v12 = .bool x12_1 ∧ Aside0 (dioramalaw24_PatchBack.j0 kq x12_1 a0_0 a0_1 a0_2 l0_3 a0_4 = some r) ∧ Aside0 (kq ≤ k) ∧ Aside0 (wc.heap[gb522]? = some (.cells #[.int .u32 a0_0, .int .i64 a0_1, .int .i64 a0_2, (.slice A0_3 l0_3.length c0_3), .string a0_4] 57 (0, 0))) ∧ Aside0 (Below w.heap.size w wc))
 case first =>
  have H := HC2.out
  clear HC2
  replace H := Option.bind_eq_some_iff.mp H
  obtain ⟨t523, A40, H⟩ := H
  replace H : (if t523 = true then ((dioramalaw24_great.f k a0_0 a0_1 a0_2 l0_3 a0_4).bind fun t524 => (dioramalaw24_PatchBack.j0 k t524 a0_0 a0_1 a0_2 l0_3 a0_4)) else (dioramalaw24_PatchBack.j0 k true a0_0 a0_1 a0_2 l0_3 a0_4)) = some r := H
  have A4 := Aside0.mk A40
  clear A40
  by_cases c5 : t523 = true
  ·subst c5
   have H1 : ((dioramalaw24_great.f k a0_0 a0_1 a0_2 l0_3 a0_4).bind fun t524 => (dioramalaw24_PatchBack.j0 k t524 a0_0 a0_1 a0_2 l0_3 a0_4)) = some r := by rw [if_pos rfl] at H; exact H
   clear H
   have H := H1
   clear H1
   replace H := Option.bind_eq_some_iff.mp H
   obtain ⟨t524, A60, H⟩ := H
   replace H : (dioramalaw24_PatchBack.j0 k t524 a0_0 a0_1 a0_2 l0_3 a0_4) = some r := H
   have A6 := Aside0.mk A60
   clear A60
   have H' := Aside0.mk H
   clear H
   go_wp2_with (first | ((with_reducible refine gate_callee (f := 35) rfl ?_); refine goesL_ (some 7) rfl rfl Try.func35 (by kernel_rfl) rfl #[] rfl (by (try simp only [List.map_toArray, List.map_cons, List.map_nil]); first | done | rfl | (simp only [List.length_drop, List.length_take]; rfl)) ?_; (with_reducible refine (dioramalaw24_awake.calls k  true _ A4.out).mono ?_); rintro e w7 ⟨rfl, hb⟩; refine ⟨_, rfl, ?_⟩; have n0_ := Aside0.mk (blk_below (g := gb522) (o := .cells #[.int .u32 a0_0, .int .i64 a0_1, .int .i64 a0_2, .slice A0_3 l0_3.length c0_3, .string a0_4] 57 (0, 0)) (by (with_reducible repeat (first | refine blk_drewN ?_ _ | refine blk_drew ?_ | refine blk_alloc ?_ _)); exact BK522.out) hb); have n1_ := Aside0.mk (below_step (by repeat (first | (with_reducible first | exact HB.out | apply below_alloc | apply pw_below_drewN | apply below_drew1 | refine below_set ?_ GE522.out) | exact HB.out)) hb); clear BK522; clear HB; have BK522 := n0_; have HB := n1_; clear n0_ n1_; (try clear hb); (try clear hb2); (try clear hk); (try clear hi); have hcz8_0 : w7.cell? ⟨gb522, 0, none⟩ = some (.int .u32 a0_0) := (blk_cell BK522.out 0).trans rfl; have hcz8_1 : w7.cell? ⟨gb522, 1, none⟩ = some (.int .i64 a0_1) := (blk_cell BK522.out 1).trans rfl; have hcz8_2 : w7.cell? ⟨gb522, 2, none⟩ = some (.int .i64 a0_2) := (blk_cell BK522.out 2).trans rfl; have hcz8_3 : w7.cell? ⟨gb522, 3, none⟩ = some (.slice A0_3 l0_3.length c0_3) := (blk_cell BK522.out 3).trans rfl; have hcz8_4 : w7.cell? ⟨gb522, 4, none⟩ = some (.string a0_4) := (blk_cell BK522.out 4).trans rfl; have hfz8_0 := blk_frozen BK522.out 0; have hfz8_1 := blk_frozen BK522.out 1; have hfz8_2 := blk_frozen BK522.out 2; have hfz8_3 := blk_frozen BK522.out 3; have hfz8_4 := blk_frozen BK522.out 4) | (go_at_call 36; (with_reducible refine (dioramalaw24_great.calls k a0_0 a0_1 a0_2 _ _ l0_3 a0_4 t524 _ ?side1 ?side2 A6.out).mono ?_); (case side1 => repeat (first | exact (Kd.C_below HR0_3.out HB.out) | (with_reducible refine Kd.C_alloc ?_ _) | (with_reducible refine Kd.C_drewN ?_ _) | (with_reducible refine Kd.C_drew ?_))); (case side2 => exact HC0_3.out); rintro e w9 ⟨rfl, hb⟩; have n0_ := Aside0.mk (blk_below (g := gb522) (o := .cells #[.int .u32 a0_0, .int .i64 a0_1, .int .i64 a0_2, .slice A0_3 l0_3.length c0_3, .string a0_4] 57 (0, 0)) (by (with_reducible repeat (first | refine blk_drewN ?_ _ | refine blk_drew ?_ | refine blk_alloc ?_ _)); exact BK522.out) hb); have n1_ := Aside0.mk (below_step (by repeat (first | (with_reducible first | exact HB.out | apply below_alloc | apply pw_below_drewN | apply below_drew1 | refine below_set ?_ GE522.out) | exact HB.out)) hb); clear BK522; clear HB; have BK522 := n0_; have HB := n1_; clear n0_ n1_; (try clear hb); (try clear hb2); (try clear hk); (try clear hi)))
   go_meet
   case rel => exact ⟨_, (t524), (by first | rfl | (simp; done) | (simp [*]; done)), H', ⟨by first | omega | exact Nat.le_refl _⟩, ⟨by (with_reducible repeat (first | refine blk_drewN ?_ _ | refine blk_drew ?_ | refine blk_alloc ?_ _)); exact BK522.out⟩, ⟨by repeat (first | (with_reducible first | exact HB.out | apply below_alloc | apply pw_below_drewN | apply below_drew1 | refine below_set ?_ GE522.out) | exact HB.out)⟩⟩
  ·replace c5 := Bool.eq_false_iff.mpr c5
   subst c5
   have H1 : (dioramalaw24_PatchBack.j0 k true a0_0 a0_1 a0_2 l0_3 a0_4) = some r := by rw [if_neg (show ¬ (false = true) by decide)] at H; exact H
   clear H
   have H := H1
   clear H1
   have H' := Aside0.mk H
   clear H
   go_wp2_with (first | ((with_reducible refine gate_callee (f := 35) rfl ?_); refine goesL_ (some 7) rfl rfl Try.func35 (by kernel_rfl) rfl #[] rfl (by (try simp only [List.map_toArray, List.map_cons, List.map_nil]); first | done | rfl | (simp only [List.length_drop, List.length_take]; rfl)) ?_; (with_reducible refine (dioramalaw24_awake.calls k  false _ A4.out).mono ?_); rintro e w10 ⟨rfl, hb⟩; refine ⟨_, rfl, ?_⟩; have n0_ := Aside0.mk (blk_below (g := gb522) (o := .cells #[.int .u32 a0_0, .int .i64 a0_1, .int .i64 a0_2, .slice A0_3 l0_3.length c0_3, .string a0_4] 57 (0, 0)) (by (with_reducible repeat (first | refine blk_drewN ?_ _ | refine blk_drew ?_ | refine blk_alloc ?_ _)); exact BK522.out) hb); have n1_ := Aside0.mk (below_step (by repeat (first | (with_reducible first | exact HB.out | apply below_alloc | apply pw_below_drewN | apply below_drew1 | refine below_set ?_ GE522.out) | exact HB.out)) hb); clear BK522; clear HB; have BK522 := n0_; have HB := n1_; clear n0_ n1_; (try clear hb); (try clear hb2); (try clear hk); (try clear hi)))
   go_meet
   case rel => exact ⟨_, (true), (by first | rfl | (simp; done) | (simp [*]; done)), H', ⟨by first | omega | exact Nat.le_refl _⟩, ⟨by (with_reducible repeat (first | refine blk_drewN ?_ _ | refine blk_drew ?_ | refine blk_alloc ?_ _)); exact BK522.out⟩, ⟨by repeat (first | (with_reducible first | exact HB.out | apply below_alloc | apply pw_below_drewN | apply below_drew1 | refine below_set ?_ GE522.out) | exact HB.out)⟩⟩
 case rest =>
  clear HC2
  try clear c1
  try clear p2
  try clear c3
  try clear c5
  try clear hcz8_0
  try clear hcz8_1
  try clear hcz8_2
  try clear hcz8_3
  try clear hcz8_4
  try clear hfz8_0
  try clear hfz8_1
  try clear hfz8_2
  try clear hfz8_3
  try clear hfz8_4
  obtain ⟨kq, x12_1, rfl, HA, HJ1, BK522, HB⟩ := hcut
  cases kq with
  | zero => exact absurd HA.out (by simp [dioramalaw24_PatchBack.j0])
  | succ kj1 =>
   have H := HA.out
   clear HA
   simp only [dioramalaw24_PatchBack.j0] at H
   by_cases c11 : x12_1 = true
   ·subst c11
    have H1 : ((dioramalaw24_awake.f kj1).bind fun t525 => (some t525)) = some r := by rw [if_pos rfl] at H; exact H
    clear H
    have H := H1
    clear H1
    replace H := Option.bind_eq_some_iff.mp H
    obtain ⟨t525, A120, H⟩ := H
    replace H : (some t525) = some r := H
    have A12 := Aside0.mk A120
    clear A120
    obtain rfl := Option.some.inj H
    go_wp2_with (first | ((with_reducible refine gate_callee (f := 35) rfl ?_); refine goesL_ (some 13) rfl rfl Try.func35 (by kernel_rfl) rfl #[] rfl (by (try simp only [List.map_toArray, List.map_cons, List.map_nil]); first | done | rfl | (simp only [List.length_drop, List.length_take]; rfl)) ?_; (with_reducible refine (dioramalaw24_awake.calls kj1  t525 _ A12.out).mono ?_); rintro e w13 ⟨rfl, hb⟩; refine ⟨_, rfl, ?_⟩; have n0_ := Aside0.mk (blk_below (g := gb522) (o := .cells #[.int .u32 a0_0, .int .i64 a0_1, .int .i64 a0_2, .slice A0_3 l0_3.length c0_3, .string a0_4] 57 (0, 0)) (by (with_reducible repeat (first | refine blk_drewN ?_ _ | refine blk_drew ?_ | refine blk_alloc ?_ _)); exact BK522.out) hb); have n1_ := Aside0.mk (below_step (by repeat (first | (with_reducible first | exact HB.out | apply below_alloc | apply pw_below_drewN | apply below_drew1 | refine below_set ?_ GE522.out) | exact HB.out)) hb); clear BK522; clear HB; have BK522 := n0_; have HB := n1_; clear n0_ n1_; (try clear hb); (try clear hb2); (try clear hk); (try clear hi)))
    go_ret
    exact ⟨by first | rfl | (simp [errW_none, errW_some] <;> rfl) | (simp [*, errW_none, errW_some] <;> rfl), by repeat (first | (with_reducible first | exact HB.out | apply below_alloc | apply pw_below_drewN | apply below_drew1 | refine below_set ?_ GE522.out) | exact HB.out)⟩
   ·replace c11 := Bool.eq_false_iff.mpr c11
    subst c11
    have H1 : ((patch_Put.f a0_0 a0_1 a0_2 l0_3 a0_4).bind fun bt526 => (if bt526.2 = 0 then ((patch_Get.f kj1 bt526.1).bind fun bt528 => (if bt528.2.2.2.2.2 = 0 then ((dioramaref24_Same.f kj1 bt528.1 bt528.2.1 bt528.2.2.1 bt528.2.2.2.1 bt528.2.2.2.2.1 a0_0 a0_1 a0_2 l0_3 a0_4).bind fun t537 => (some t537)) else (some false))) else (some (bt526.1.toList == ([] : List UInt8))))) = some r := by rw [if_neg (show ¬ (false = true) by decide)] at H; exact H
    clear H
    have H := H1
    clear H1
    replace H := Option.bind_eq_some_iff.mp H
    obtain ⟨⟨t526, t527⟩, A140, H⟩ := H
    replace H : (if t527 = 0 then ((patch_Get.f kj1 t526).bind fun bt528 => (if bt528.2.2.2.2.2 = 0 then ((dioramaref24_Same.f kj1 bt528.1 bt528.2.1 bt528.2.2.1 bt528.2.2.2.1 bt528.2.2.2.2.1 a0_0 a0_1 a0_2 l0_3 a0_4).bind fun t537 => (some t537)) else (some false))) else (some (t526.toList == ([] : List UInt8)))) = some r := H
    have A14 := Aside0.mk A140
    clear A140
    by_cases c15 : t527 = 0
    ·rw [if_pos c15] at H
     have c15b0 : (t527 == 0) = true := beq_iff_eq.mpr c15
     have c15b1 : (t527 != 0) = false := bne_eq_false_iff_eq.mpr c15
     clear c15
     replace H := Option.bind_eq_some_iff.mp H
     obtain ⟨⟨t528, t529, t530, t531, t534, t535⟩, A160, H⟩ := H
     replace H : (if t535 = 0 then ((dioramaref24_Same.f kj1 t528 t529 t530 t531 t534 a0_0 a0_1 a0_2 l0_3 a0_4).bind fun t537 => (some t537)) else (some false)) = some r := H
     have A16 := Aside0.mk A160
     clear A160
     by_cases c17 : t535 = 0
     ·rw [if_pos c17] at H
      have c17b0 : (t535 == 0) = true := beq_iff_eq.mpr c17
      have c17b1 : (t535 != 0) = false := bne_eq_false_iff_eq.mpr c17
      clear c17
      replace H := Option.bind_eq_some_iff.mp H
      obtain ⟨t537, A180, H⟩ := H
      replace H : (some t537) = some r := H
      have A18 := Aside0.mk A180
      clear A180
      obtain rfl := Option.some.inj H
      have hcz19_0 : wc.cell? ⟨gb522, 0, none⟩ = some (.int .u32 a0_0) := (blk_cell BK522.out 0).trans rfl
      have hcz19_1 : wc.cell? ⟨gb522, 1, none⟩ = some (.int .i64 a0_1) := (blk_cell BK522.out 1).trans rfl
      have hcz19_2 : wc.cell? ⟨gb522, 2, none⟩ = some (.int .i64 a0_2) := (blk_cell BK522.out 2).trans rfl
      have hcz19_3 : wc.cell? ⟨gb522, 3, none⟩ = some (.slice A0_3 l0_3.length c0_3) := (blk_cell BK522.out 3).trans rfl
      have hcz19_4 : wc.cell? ⟨gb522, 4, none⟩ = some (.string a0_4) := (blk_cell BK522.out 4).trans rfl
      have hfz19_0 := blk_frozen BK522.out 0
      have hfz19_1 := blk_frozen BK522.out 1
      have hfz19_2 := blk_frozen BK522.out 2
      have hfz19_3 := blk_frozen BK522.out 3
      have hfz19_4 := blk_frozen BK522.out 4
      go_wp2_with (first | ((with_reducible refine gate_callee (f := 37) rfl ?_); refine goesL_ (some 16) rfl rfl Try.func37 (by kernel_rfl) rfl #[.agg #[.int .u32 a0_0, .int .i64 a0_1, .int .i64 a0_2, .slice A0_3 l0_3.length c0_3, .string a0_4]] rfl (by (try simp only [List.map_toArray, List.map_cons, List.map_nil]); first | done | rfl | (simp only [List.length_drop, List.length_take]; rfl)) ?_; (with_reducible refine (patch_Put.calls a0_0 a0_1 a0_2 _ _ l0_3 a0_4 t526 t527 _ ?side1 ?side2 A14.out).mono ?_); (case side1 => repeat (first | exact (Kd.C_below HR0_3.out HB.out) | (with_reducible refine Kd.C_alloc ?_ _) | (with_reducible refine Kd.C_drewN ?_ _) | (with_reducible refine Kd.C_drew ?_))); (case side2 => exact HC0_3.out); rintro e w20 ⟨rfl, hb⟩; refine ⟨_, rfl, ?_⟩; have n0_ := Aside0.mk (blk_below (g := gb522) (o := .cells #[.int .u32 a0_0, .int .i64 a0_1, .int .i64 a0_2, .slice A0_3 l0_3.length c0_3, .string a0_4] 57 (0, 0)) (by (with_reducible repeat (first | refine blk_drewN ?_ _ | refine blk_drew ?_ | refine blk_alloc ?_ _)); exact BK522.out) hb); have n1_ := Aside0.mk (below_step (by repeat (first | (with_reducible first | exact HB.out | apply below_alloc | apply pw_below_drewN | apply below_drew1 | refine below_set ?_ GE522.out) | exact HB.out)) hb); clear BK522; clear HB; have BK522 := n0_; have HB := n1_; clear n0_ n1_; (try clear hb); (try clear hb2); (try clear hk); (try clear hi)) | ((with_reducible refine gate_callee (f := 39) rfl ?_); refine goesL_ (some 25) rfl rfl Try.func39 (by kernel_rfl) rfl #[.string t526] rfl (by (try simp only [List.map_toArray, List.map_cons, List.map_nil]); first | done | rfl | (simp only [List.length_drop, List.length_take]; rfl)) ?_; (with_reducible refine (patch_Get.calls kj1 t526 t528 t529 t530 t531 t534 t535 _ A16.out).mono ?_); rintro e w21 ⟨v532, rfl, ho0, hb⟩; refine ⟨_, rfl, ?_⟩; have n0_ := Aside0.mk (Kd.S_lower ho0 (below_size (by repeat (first | (with_reducible first | exact HB.out | apply below_alloc | apply pw_below_drewN | apply below_drew1 | refine below_set ?_ GE522.out) | exact HB.out)))); have n1_ := Aside0.mk (blk_below (g := gb522) (o := .cells #[.int .u32 a0_0, .int .i64 a0_1, .int .i64 a0_2, .slice A0_3 l0_3.length c0_3, .string a0_4] 57 (0, 0)) (by (with_reducible repeat (first | refine blk_drewN ?_ _ | refine blk_drew ?_ | refine blk_alloc ?_ _)); exact BK522.out) hb); have n2_ := Aside0.mk (below_step (by repeat (first | (with_reducible first | exact HB.out | apply below_alloc | apply pw_below_drewN | apply below_drew1 | refine below_set ?_ GE522.out) | exact HB.out)) hb); clear BK522; clear HB; have HO533 := n0_; have BK522 := n1_; have HB := n2_; clear n0_ n1_ n2_; (try clear hb); (try clear hb2); (try clear hk); (try clear hi); (try clear ho0)) | ((with_reducible refine gate_dst (N := 5) rfl ?_); refine box_event ?hg (N := 5) ?hd (cs := #[.int .u32 0, .int .i64 0, .int .i64 0, .slice none 0 0, .string (⟨#[]⟩ : ByteArray)]) (t := 57) ?hr ?_; (case hd => rfl); (case hg => rfl); (case hr => first | (go_simp; done) | (go_simp; rfl)); intro gb536 hg w22 hbox hb; have n0_ := Aside0.mk (Kd.S_below (by (with_reducible repeat (first | apply Kd.S_alloc | apply Kd.S_drewN | apply Kd.S_drew)); exact HO533.out) hb); have n1_ := Aside0.mk (blk_below (g := gb522) (o := .cells #[.int .u32 a0_0, .int .i64 a0_1, .int .i64 a0_2, .slice A0_3 l0_3.length c0_3, .string a0_4] 57 (0, 0)) (by (with_reducible repeat (first | refine blk_drewN ?_ _ | refine blk_drew ?_ | refine blk_alloc ?_ _)); exact BK522.out) hb); have n2_ := Aside0.mk (below_step (by repeat (first | (with_reducible first | exact HB.out | apply below_alloc | apply pw_below_drewN | apply below_drew1 | refine below_set ?_ GE522.out) | exact HB.out)) hb); have n3_ := Aside0.mk (hbox); have n4_ := Aside0.mk ((by rw [hg]; exact (below_size (by repeat (first | (with_reducible first | exact HB.out | apply below_alloc | apply pw_below_drewN | apply below_drew1 | refine below_set ?_ GE522.out) | exact HB.out))) : w.heap.size ≤ gb536)); have n5_ := Aside0.mk ((by rw [hg]; exact (below_size (by repeat (first | (with_reducible first | exact HB.out | apply below_alloc | apply pw_below_drewN | apply below_drew1 | refine below_set ?_ GE522.out) | exact HB.out))) : w.heap.size ≤ gb536)); have n6_ := Aside0.mk ((by rw [hg]; exact Nat.ne_of_lt (blk_lt (g := gb522) (o := .cells #[.int .u32 a0_0, .int .i64 a0_1, .int .i64 a0_2, .slice A0_3 l0_3.length c0_3, .string a0_4] 57 (0, 0)) (by (with_reducible repeat (first | refine blk_drewN ?_ _ | refine blk_drew ?_ | refine blk_alloc ?_ _)); exact BK522.out)) : gb522 ≠ gb536)); have n7_ := Aside0.mk ((by rw [hg]; exact Nat.ne_of_gt (blk_lt (g := gb522) (o := .cells #[.int .u32 a0_0, .int .i64 a0_1, .int .i64 a0_2, .slice A0_3 l0_3.length c0_3, .string a0_4] 57 (0, 0)) (by (with_reducible repeat (first | refine blk_drewN ?_ _ | refine blk_drew ?_ | refine blk_alloc ?_ _)); exact BK522.out)) : gb536 ≠ gb522)); clear HO533; clear BK522; clear HB; have HO533 := n0_; have BK522 := n1_; have HB := n2_; have BK536 := n3_; have GW536 := n4_; have GE536 := n5_; have NB522_536 := n6_; have NB536_522 := n7_; clear n0_ n1_ n2_ n3_ n4_ n5_ n6_ n7_; clear hb hbox hg; have hnb23 := NB536_522.out; have hnc23 := NB522_536.out; have hcz24_0 : w22.cell? ⟨gb536, 0, none⟩ = some (.int .u32 0) := (blk_cell BK536.out 0).trans rfl; have hcz24_1 : w22.cell? ⟨gb536, 1, none⟩ = some (.int .i64 0) := (blk_cell BK536.out 1).trans rfl; have hcz24_2 : w22.cell? ⟨gb536, 2, none⟩ = some (.int .i64 0) := (blk_cell BK536.out 2).trans rfl; have hcz24_3 : w22.cell? ⟨gb536, 3, none⟩ = some (.slice none 0 0) := (blk_cell BK536.out 3).trans rfl; have hcz24_4 : w22.cell? ⟨gb536, 4, none⟩ = some (.string (⟨#[]⟩ : ByteArray)) := (blk_cell BK536.out 4).trans rfl; have hfz24_0 := blk_frozen BK536.out 0; have hfz24_1 := blk_frozen BK536.out 1; have hfz24_2 := blk_frozen BK536.out 2; have hfz24_3 := blk_frozen BK536.out 3; have hfz24_4 := blk_frozen BK536.out 4; obtain ⟨Ao25, co25, eo25⟩ := Kd.S_slice HO533.out; subst eo25; have hcz26_0 : w22.cell? ⟨gb522, 0, none⟩ = some (.int .u32 a0_0) := (blk_cell BK522.out 0).trans rfl; have hcz26_1 : w22.cell? ⟨gb522, 1, none⟩ = some (.int .i64 a0_1) := (blk_cell BK522.out 1).trans rfl; have hcz26_2 : w22.cell? ⟨gb522, 2, none⟩ = some (.int .i64 a0_2) := (blk_cell BK522.out 2).trans rfl; have hcz26_3 : w22.cell? ⟨gb522, 3, none⟩ = some (.slice A0_3 l0_3.length c0_3) := (blk_cell BK522.out 3).trans rfl; have hcz26_4 : w22.cell? ⟨gb522, 4, none⟩ = some (.string a0_4) := (blk_cell BK522.out 4).trans rfl; have hfz26_0 := blk_frozen BK522.out 0; have hfz26_1 := blk_frozen BK522.out 1; have hfz26_2 := blk_frozen BK522.out 2; have hfz26_3 := blk_frozen BK522.out 3; have hfz26_4 := blk_frozen BK522.out 4) | (go_at_call 41; (with_reducible refine (dioramaref24_Same.calls kj1 t528 t529 t530 _ _ t531 t534 a0_0 a0_1 a0_2 _ _ l0_3 a0_4 t537 _ ?side1 ?side2 ?side3 ?side4 A18.out).mono ?_); (case side1 => refine (Kd.S_reads' (e := 107) (base := w.heap.size) (ok := fun k_ => True) (n := t531.length) (c := co25) ?_).2.2; exact (by (with_reducible repeat (first | apply Kd.S_alloc | apply Kd.S_drewN | apply Kd.S_drew)); exact (Kd.S_mono (Kd.S_far (p := ⟨gb536, 4, none⟩) (Kd.S_far (p := ⟨gb536, 3, none⟩) (Kd.S_far (p := ⟨gb536, 2, none⟩) (Kd.S_far (p := ⟨gb536, 1, none⟩) (Kd.S_far (p := ⟨gb536, 0, none⟩) (Kd.S_types HO533.out BK536.out (by decide)) (fun _ hk => hk.2) (.int .u32 t528)) (fun _ hk => hk.2) (.int .i64 t529)) (fun _ hk => hk.2) (.int .i64 t530)) (fun _ hk => hk.2) (.slice Ao25 t531.length co25)) (fun _ hk => hk.2) (.string t534)) (fun _ h_ => h_.1)))); (case side2 => exact (Kd.S_reads' HO533.out).2.1); (case side3 => exact Kd.C_below HR0_3.out (by repeat (first | (with_reducible first | exact HB.out | apply below_alloc | apply pw_below_drewN | apply below_drew1 | refine below_set ?_ GE522.out | refine below_set ?_ GE536.out) | exact HB.out))); (case side4 => exact HC0_3.out); rintro e w27 ⟨rfl, hb⟩; have n0_ := Aside0.mk (Kd.S_below (by (with_reducible repeat (first | apply Kd.S_alloc | apply Kd.S_drewN | apply Kd.S_drew)); exact (Kd.S_mono (Kd.S_far (p := ⟨gb536, 4, none⟩) (Kd.S_far (p := ⟨gb536, 3, none⟩) (Kd.S_far (p := ⟨gb536, 2, none⟩) (Kd.S_far (p := ⟨gb536, 1, none⟩) (Kd.S_far (p := ⟨gb536, 0, none⟩) (Kd.S_types HO533.out BK536.out (by decide)) (fun _ hk => hk.2) (.int .u32 t528)) (fun _ hk => hk.2) (.int .i64 t529)) (fun _ hk => hk.2) (.int .i64 t530)) (fun _ hk => hk.2) (.slice Ao25 t531.length co25)) (fun _ hk => hk.2) (.string t534)) (fun _ h_ => h_.1))) hb); have n1_ := Aside0.mk (blk_below (g := gb522) (o := .cells #[.int .u32 a0_0, .int .i64 a0_1, .int .i64 a0_2, .slice A0_3 l0_3.length c0_3, .string a0_4] 57 (0, 0)) (by (with_reducible repeat (first | refine blk_drewN ?_ _ | refine blk_drew ?_ | refine blk_alloc ?_ _)); refine blk_far ?_ NB522_536.out _; (with_reducible repeat (first | refine blk_drewN ?_ _ | refine blk_drew ?_ | refine blk_alloc ?_ _)); refine blk_far ?_ NB522_536.out _; (with_reducible repeat (first | refine blk_drewN ?_ _ | refine blk_drew ?_ | refine blk_alloc ?_ _)); refine blk_far ?_ NB522_536.out _; (with_reducible repeat (first | refine blk_drewN ?_ _ | refine blk_drew ?_ | refine blk_alloc ?_ _)); refine blk_far ?_ NB522_536.out _; (with_reducible repeat (first | refine blk_drewN ?_ _ | refine blk_drew ?_ | refine blk_alloc ?_ _)); refine blk_far ?_ NB522_536.out _; (with_reducible repeat (first | refine blk_drewN ?_ _ | refine blk_drew ?_ | refine blk_alloc ?_ _)); exact BK522.out) hb); have n2_ := Aside0.mk (blk_below (g := gb536) (o := .cells #[.int .u32 t528, .int .i64 t529, .int .i64 t530, .slice Ao25 t531.length co25, .string t534] 57 (0, 0)) (by (with_reducible repeat (first | refine blk_drewN ?_ _ | refine blk_drew ?_ | refine blk_alloc ?_ _)); refine blk_put (cs := #[.int .u32 t528, .int .i64 t529, .int .i64 t530, .slice Ao25 t531.length co25, .string (⟨#[]⟩ : ByteArray)]) ?_ 4 _ rfl; (with_reducible repeat (first | refine blk_drewN ?_ _ | refine blk_drew ?_ | refine blk_alloc ?_ _)); refine blk_put (cs := #[.int .u32 t528, .int .i64 t529, .int .i64 t530, .slice none 0 0, .string (⟨#[]⟩ : ByteArray)]) ?_ 3 _ rfl; (with_reducible repeat (first | refine blk_drewN ?_ _ | refine blk_drew ?_ | refine blk_alloc ?_ _)); refine blk_put (cs := #[.int .u32 t528, .int .i64 t529, .int .i64 0, .slice none 0 0, .string (⟨#[]⟩ : ByteArray)]) ?_ 2 _ rfl; (with_reducible repeat (first | refine blk_drewN ?_ _ | refine blk_drew ?_ | refine blk_alloc ?_ _)); refine blk_put (cs := #[.int .u32 t528, .int .i64 0, .int .i64 0, .slice none 0 0, .string (⟨#[]⟩ : ByteArray)]) ?_ 1 _ rfl; (with_reducible repeat (first | refine blk_drewN ?_ _ | refine blk_drew ?_ | refine blk_alloc ?_ _)); refine blk_put (cs := #[.int .u32 0, .int .i64 0, .int .i64 0, .slice none 0 0, .string (⟨#[]⟩ : ByteArray)]) ?_ 0 _ rfl; (with_reducible repeat (first | refine blk_drewN ?_ _ | refine blk_drew ?_ | refine blk_alloc ?_ _)); exact BK536.out) hb); have n3_ := Aside0.mk (below_step (by repeat (first | (with_reducible first | exact HB.out | apply below_alloc | apply pw_below_drewN | apply below_drew1 | refine below_set ?_ GE522.out | refine below_set ?_ GE536.out) | exact HB.out)) hb); clear HO533; clear BK522; clear BK536; clear HB; have HO533 := n0_; have BK522 := n1_; have BK536 := n2_; have HB := n3_; clear n0_ n1_ n2_ n3_; (try clear hb); (try clear hb2); (try clear hk); (try clear hi)))
      go_ret
      exact ⟨by first | rfl | (simp [errW_none, errW_some] <;> rfl) | (simp [*, errW_none, errW_some] <;> rfl), by repeat (first | (with_reducible first | exact HB.out | apply below_alloc | apply pw_below_drewN | apply below_drew1 | refine below_set ?_ GE522.out | refine below_set ?_ GE536.out) | exact HB.out)⟩
     ·rw [if_neg c17] at H
      have c17b0 : (t535 == 0) = false := beq_eq_false_iff_ne.mpr c17
      have c17b1 : (t535 != 0) = true := bne_iff_ne.mpr c17
      obtain rfl := Option.some.inj H
      have hcz28_0 : wc.cell? ⟨gb522, 0, none⟩ = some (.int .u32 a0_0) := (blk_cell BK522.out 0).trans rfl
      have hcz28_1 : wc.cell? ⟨gb522, 1, none⟩ = some (.int .i64 a0_1) := (blk_cell BK522.out 1).trans rfl
      have hcz28_2 : wc.cell? ⟨gb522, 2, none⟩ = some (.int .i64 a0_2) := (blk_cell BK522.out 2).trans rfl
      have hcz28_3 : wc.cell? ⟨gb522, 3, none⟩ = some (.slice A0_3 l0_3.length c0_3) := (blk_cell BK522.out 3).trans rfl
      have hcz28_4 : wc.cell? ⟨gb522, 4, none⟩ = some (.string a0_4) := (blk_cell BK522.out 4).trans rfl
      have hfz28_0 := blk_frozen BK522.out 0
      have hfz28_1 := blk_frozen BK522.out 1
      have hfz28_2 := blk_frozen BK522.out 2
      have hfz28_3 := blk_frozen BK522.out 3
      have hfz28_4 := blk_frozen BK522.out 4
      go_wp2_with (first | ((with_reducible refine gate_callee (f := 37) rfl ?_); refine goesL_ (some 16) rfl rfl Try.func37 (by kernel_rfl) rfl #[.agg #[.int .u32 a0_0, .int .i64 a0_1, .int .i64 a0_2, .slice A0_3 l0_3.length c0_3, .string a0_4]] rfl (by (try simp only [List.map_toArray, List.map_cons, List.map_nil]); first | done | rfl | (simp only [List.length_drop, List.length_take]; rfl)) ?_; (with_reducible refine (patch_Put.calls a0_0 a0_1 a0_2 _ _ l0_3 a0_4 t526 t527 _ ?side1 ?side2 A14.out).mono ?_); (case side1 => repeat (first | exact (Kd.C_below HR0_3.out HB.out) | (with_reducible refine Kd.C_alloc ?_ _) | (with_reducible refine Kd.C_drewN ?_ _) | (with_reducible refine Kd.C_drew ?_))); (case side2 => exact HC0_3.out); rintro e w29 ⟨rfl, hb⟩; refine ⟨_, rfl, ?_⟩; have n0_ := Aside0.mk (blk_below (g := gb522) (o := .cells #[.int .u32 a0_0, .int .i64 a0_1, .int .i64 a0_2, .slice A0_3 l0_3.length c0_3, .string a0_4] 57 (0, 0)) (by (with_reducible repeat (first | refine blk_drewN ?_ _ | refine blk_drew ?_ | refine blk_alloc ?_ _)); exact BK522.out) hb); have n1_ := Aside0.mk (below_step (by repeat (first | (with_reducible first | exact HB.out | apply below_alloc | apply pw_below_drewN | apply below_drew1 | refine below_set ?_ GE522.out) | exact HB.out)) hb); clear BK522; clear HB; have BK522 := n0_; have HB := n1_; clear n0_ n1_; (try clear hb); (try clear hb2); (try clear hk); (try clear hi)) | ((with_reducible refine gate_callee (f := 39) rfl ?_); refine goesL_ (some 25) rfl rfl Try.func39 (by kernel_rfl) rfl #[.string t526] rfl (by (try simp only [List.map_toArray, List.map_cons, List.map_nil]); first | done | rfl | (simp only [List.length_drop, List.length_take]; rfl)) ?_; (with_reducible refine (patch_Get.calls kj1 t526 t528 t529 t530 t531 t534 t535 _ A16.out).mono ?_); rintro e w30 ⟨v532, rfl, ho0, hb⟩; refine ⟨_, rfl, ?_⟩; have n0_ := Aside0.mk (Kd.S_lower ho0 (below_size (by repeat (first | (with_reducible first | exact HB.out | apply below_alloc | apply pw_below_drewN | apply below_drew1 | refine below_set ?_ GE522.out) | exact HB.out)))); have n1_ := Aside0.mk (blk_below (g := gb522) (o := .cells #[.int .u32 a0_0, .int .i64 a0_1, .int .i64 a0_2, .slice A0_3 l0_3.length c0_3, .string a0_4] 57 (0, 0)) (by (with_reducible repeat (first | refine blk_drewN ?_ _ | refine blk_drew ?_ | refine blk_alloc ?_ _)); exact BK522.out) hb); have n2_ := Aside0.mk (below_step (by repeat (first | (with_reducible first | exact HB.out | apply below_alloc | apply pw_below_drewN | apply below_drew1 | refine below_set ?_ GE522.out) | exact HB.out)) hb); clear BK522; clear HB; have HO533 := n0_; have BK522 := n1_; have HB := n2_; clear n0_ n1_ n2_; (try clear hb); (try clear hb2); (try clear hk); (try clear hi); (try clear ho0)) | ((with_reducible refine gate_dst (N := 5) rfl ?_); refine box_event ?hg (N := 5) ?hd (cs := #[.int .u32 0, .int .i64 0, .int .i64 0, .slice none 0 0, .string (⟨#[]⟩ : ByteArray)]) (t := 57) ?hr ?_; (case hd => rfl); (case hg => rfl); (case hr => first | (go_simp; done) | (go_simp; rfl)); intro gb536 hg w31 hbox hb; have n0_ := Aside0.mk (Kd.S_below (by (with_reducible repeat (first | apply Kd.S_alloc | apply Kd.S_drewN | apply Kd.S_drew)); exact HO533.out) hb); have n1_ := Aside0.mk (blk_below (g := gb522) (o := .cells #[.int .u32 a0_0, .int .i64 a0_1, .int .i64 a0_2, .slice A0_3 l0_3.length c0_3, .string a0_4] 57 (0, 0)) (by (with_reducible repeat (first | refine blk_drewN ?_ _ | refine blk_drew ?_ | refine blk_alloc ?_ _)); exact BK522.out) hb); have n2_ := Aside0.mk (below_step (by repeat (first | (with_reducible first | exact HB.out | apply below_alloc | apply pw_below_drewN | apply below_drew1 | refine below_set ?_ GE522.out) | exact HB.out)) hb); have n3_ := Aside0.mk (hbox); have n4_ := Aside0.mk ((by rw [hg]; exact (below_size (by repeat (first | (with_reducible first | exact HB.out | apply below_alloc | apply pw_below_drewN | apply below_drew1 | refine below_set ?_ GE522.out) | exact HB.out))) : w.heap.size ≤ gb536)); have n5_ := Aside0.mk ((by rw [hg]; exact (below_size (by repeat (first | (with_reducible first | exact HB.out | apply below_alloc | apply pw_below_drewN | apply below_drew1 | refine below_set ?_ GE522.out) | exact HB.out))) : w.heap.size ≤ gb536)); have n6_ := Aside0.mk ((by rw [hg]; exact Nat.ne_of_lt (blk_lt (g := gb522) (o := .cells #[.int .u32 a0_0, .int .i64 a0_1, .int .i64 a0_2, .slice A0_3 l0_3.length c0_3, .string a0_4] 57 (0, 0)) (by (with_reducible repeat (first | refine blk_drewN ?_ _ | refine blk_drew ?_ | refine blk_alloc ?_ _)); exact BK522.out)) : gb522 ≠ gb536)); have n7_ := Aside0.mk ((by rw [hg]; exact Nat.ne_of_gt (blk_lt (g := gb522) (o := .cells #[.int .u32 a0_0, .int .i64 a0_1, .int .i64 a0_2, .slice A0_3 l0_3.length c0_3, .string a0_4] 57 (0, 0)) (by (with_reducible repeat (first | refine blk_drewN ?_ _ | refine blk_drew ?_ | refine blk_alloc ?_ _)); exact BK522.out)) : gb536 ≠ gb522)); clear HO533; clear BK522; clear HB; have HO533 := n0_; have BK522 := n1_; have HB := n2_; have BK536 := n3_; have GW536 := n4_; have GE536 := n5_; have NB522_536 := n6_; have NB536_522 := n7_; clear n0_ n1_ n2_ n3_ n4_ n5_ n6_ n7_; clear hb hbox hg; have hnb32 := NB536_522.out; have hnc32 := NB522_536.out; have hcz33_0 : w31.cell? ⟨gb536, 0, none⟩ = some (.int .u32 0) := (blk_cell BK536.out 0).trans rfl; have hcz33_1 : w31.cell? ⟨gb536, 1, none⟩ = some (.int .i64 0) := (blk_cell BK536.out 1).trans rfl; have hcz33_2 : w31.cell? ⟨gb536, 2, none⟩ = some (.int .i64 0) := (blk_cell BK536.out 2).trans rfl; have hcz33_3 : w31.cell? ⟨gb536, 3, none⟩ = some (.slice none 0 0) := (blk_cell BK536.out 3).trans rfl; have hcz33_4 : w31.cell? ⟨gb536, 4, none⟩ = some (.string (⟨#[]⟩ : ByteArray)) := (blk_cell BK536.out 4).trans rfl; have hfz33_0 := blk_frozen BK536.out 0; have hfz33_1 := blk_frozen BK536.out 1; have hfz33_2 := blk_frozen BK536.out 2; have hfz33_3 := blk_frozen BK536.out 3; have hfz33_4 := blk_frozen BK536.out 4; obtain ⟨Ao34, co34, eo34⟩ := Kd.S_slice HO533.out; subst eo34))
      go_ret
      exact ⟨by first | rfl | (simp [errW_none, errW_some] <;> rfl) | (simp [*, errW_none, errW_some] <;> rfl), by repeat (first | (with_reducible first | exact HB.out | apply below_alloc | apply pw_below_drewN | apply below_drew1 | refine below_set ?_ GE522.out | refine below_set ?_ GE536.out) | exact HB.out)⟩
    ·rw [if_neg c15] at H
     have c15b0 : (t527 == 0) = false := beq_eq_false_iff_ne.mpr c15
     have c15b1 : (t527 != 0) = true := bne_iff_ne.mpr c15
     obtain rfl := Option.some.inj H
     have hcz35_0 : wc.cell? ⟨gb522, 0, none⟩ = some (.int .u32 a0_0) := (blk_cell BK522.out 0).trans rfl
     have hcz35_1 : wc.cell? ⟨gb522, 1, none⟩ = some (.int .i64 a0_1) := (blk_cell BK522.out 1).trans rfl
     have hcz35_2 : wc.cell? ⟨gb522, 2, none⟩ = some (.int .i64 a0_2) := (blk_cell BK522.out 2).trans rfl
     have hcz35_3 : wc.cell? ⟨gb522, 3, none⟩ = some (.slice A0_3 l0_3.length c0_3) := (blk_cell BK522.out 3).trans rfl
     have hcz35_4 : wc.cell? ⟨gb522, 4, none⟩ = some (.string a0_4) := (blk_cell BK522.out 4).trans rfl
     have hfz35_0 := blk_frozen BK522.out 0
     have hfz35_1 := blk_frozen BK522.out 1
     have hfz35_2 := blk_frozen BK522.out 2
     have hfz35_3 := blk_frozen BK522.out 3
     have hfz35_4 := blk_frozen BK522.out 4
     go_wp2_with (first | ((with_reducible refine gate_callee (f := 37) rfl ?_); refine goesL_ (some 16) rfl rfl Try.func37 (by kernel_rfl) rfl #[.agg #[.int .u32 a0_0, .int .i64 a0_1, .int .i64 a0_2, .slice A0_3 l0_3.length c0_3, .string a0_4]] rfl (by (try simp only [List.map_toArray, List.map_cons, List.map_nil]); first | done | rfl | (simp only [List.length_drop, List.length_take]; rfl)) ?_; (with_reducible refine (patch_Put.calls a0_0 a0_1 a0_2 _ _ l0_3 a0_4 t526 t527 _ ?side1 ?side2 A14.out).mono ?_); (case side1 => repeat (first | exact (Kd.C_below HR0_3.out HB.out) | (with_reducible refine Kd.C_alloc ?_ _) | (with_reducible refine Kd.C_drewN ?_ _) | (with_reducible refine Kd.C_drew ?_))); (case side2 => exact HC0_3.out); rintro e w36 ⟨rfl, hb⟩; refine ⟨_, rfl, ?_⟩; have n0_ := Aside0.mk (blk_below (g := gb522) (o := .cells #[.int .u32 a0_0, .int .i64 a0_1, .int .i64 a0_2, .slice A0_3 l0_3.length c0_3, .string a0_4] 57 (0, 0)) (by (with_reducible repeat (first | refine blk_drewN ?_ _ | refine blk_drew ?_ | refine blk_alloc ?_ _)); exact BK522.out) hb); have n1_ := Aside0.mk (below_step (by repeat (first | (with_reducible first | exact HB.out | apply below_alloc | apply pw_below_drewN | apply below_drew1 | refine below_set ?_ GE522.out) | exact HB.out)) hb); clear BK522; clear HB; have BK522 := n0_; have HB := n1_; clear n0_ n1_; (try clear hb); (try clear hb2); (try clear hk); (try clear hi)))
     go_ret
     exact ⟨by first | rfl | (simp [errW_none, errW_some] <;> rfl) | (simp [*, errW_none, errW_some] <;> rfl), by repeat (first | (with_reducible first | exact HB.out | apply below_alloc | apply pw_below_drewN | apply below_drew1 | refine below_set ?_ GE522.out) | exact HB.out)⟩
end Go.Proofs.Ytdjpelcdijpihaa.PrintF
