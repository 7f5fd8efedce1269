/- A part of the proof of the claim: what it uses of the text PrintF8 (printed by xprint.py). -/
import Derived.Test.YtdjpelcdijpihaaVZ
import Derived.Test.YtdjpelcdijpihaaVPrintF0
import Derived.Test.YtdjpelcdijpihaaVPrintF4
import Derived.Test.YtdjpelcdijpihaaVPrintF7
import Derived.Test.YtdjpelcdijpihaaVHandPatchGet
import Derived.Test.YtdjpelcdijpihaaVHandPut
namespace Go.Proofs.Ytdjpelcdijpihaa.PrintF
open Go.Proofs.Ytdjpelcdijpihaa.Print
open Go.RowKit Go.Proofs.YtdjpelcdijpihaaW.PrintWords Go.Proofs.YtdjpelcdijpihaaW.PrintLast Go.Proofs.YtdjpelcdijpihaaW.PrintMore
attribute [local go_sem] max2_int min2_int max_two min_two
set_option linter.unusedVariables false
set_option linter.unusedSimpArgs false
def dioramalaw24_awake.f (k : Nat)  : Option (Bool) := (patch_Put.f 1 2 0 ([] : List (S107)) (⟨#[]⟩ : ByteArray)).bind fun bt256 => ((patch_Get.f k bt256.1).bind fun bt258 => ((patch_Put.f 0 0 3 ([] : List (S107)) (⟨#[]⟩ : ByteArray)).bind fun bt267 => (if (bt256.1.size : Int) = 26 then (if 0 ≤ 16 then (if 16 ≤ (bt256.1.size : Int) then (if (bt256.1.extract 0 16).toList = ([68, 73, 79, 80, 2, 1, 9, 1, 0, 0, 0, 2, 0, 0, 0, 0] : List UInt8) then (if 20 ≤ (bt256.1.size : Int) then (if (bt256.1.extract 20 bt256.1.size).toList = ([2, 0, 0, 0, 0, 0] : List UInt8) then (if bt256.2 = 0 then (if bt258.1 = 1 then (if bt258.2.1 = 2 then (if bt258.2.2.1 = 0 then (if bt258.2.2.2.2.2 = 0 then (some (bt267.2 == 1)) else (none)) else (none)) else (none)) else (none)) else (none)) else (none)) else (none)) else (none)) else (none)) else (none)) else (none))))
theorem dioramalaw24_awake.mono : ∀ k, LeO (dioramalaw24_awake.f k ) (dioramalaw24_awake.f (k + 1) ) := by
 intro  k
 unfold dioramalaw24_awake.f
 repeat' first
   | (with_reducible exact patch_Get.mono _ _)
   | (with_reducible exact LeO.refl _)
   | (with_reducible exact LeO.none _)
   | (with_reducible refine LeO.ite ?_ ?_)
   | (with_reducible refine LeO.bind ?_ (fun _ => ?_))
   | exact patch_Get.mono _ _
   | exact LeO.none _
   | refine LeO.ite ?_ ?_
   | refine LeO.bind ?_ (fun _ => ?_)
set_option maxHeartbeats 8000000 in
set_option maxRecDepth 100000 in
theorem dioramalaw24_awake.calls (k : Nat)  (r : Bool) (w : World) (h : dioramalaw24_awake.f k  = some r) :
  Calls Try.prog 35 #[] w fun e w' => e = .returned (.bool r) ∧ Below w.heap.size w w' := by
 have hu57 := Try.underlying57
 have HB := Aside0.mk (Below.refl w.heap.size w)
 have H : ((patch_Put.f 1 2 0 ([] : List (S107)) (⟨#[]⟩ : ByteArray)).bind fun bt256 => ((patch_Get.f k bt256.1).bind fun bt258 => ((patch_Put.f 0 0 3 ([] : List (S107)) (⟨#[]⟩ : ByteArray)).bind fun bt267 => (if (bt256.1.size : Int) = 26 then (if 0 ≤ 16 then (if 16 ≤ (bt256.1.size : Int) then (if (bt256.1.extract 0 16).toList = ([68, 73, 79, 80, 2, 1, 9, 1, 0, 0, 0, 2, 0, 0, 0, 0] : List UInt8) then (if 20 ≤ (bt256.1.size : Int) then (if (bt256.1.extract 20 bt256.1.size).toList = ([2, 0, 0, 0, 0, 0] : List UInt8) then (if bt256.2 = 0 then (if bt258.1 = 1 then (if bt258.2.1 = 2 then (if bt258.2.2.1 = 0 then (if bt258.2.2.2.2.2 = 0 then (some (bt267.2 == 1)) else (none)) else (none)) else (none)) else (none)) else (none)) else (none)) else (none)) else (none)) else (none)) else (none)) else (none))))) = some r := h
 clear h
 replace H := Option.bind_eq_some_iff.mp H
 obtain ⟨⟨t256, t257⟩, A10, H⟩ := H
 replace H : ((patch_Get.f k t256).bind fun bt258 => ((patch_Put.f 0 0 3 ([] : List (S107)) (⟨#[]⟩ : ByteArray)).bind fun bt267 => (if (t256.size : Int) = 26 then (if 0 ≤ 16 then (if 16 ≤ (t256.size : Int) then (if (t256.extract 0 16).toList = ([68, 73, 79, 80, 2, 1, 9, 1, 0, 0, 0, 2, 0, 0, 0, 0] : List UInt8) then (if 20 ≤ (t256.size : Int) then (if (t256.extract 20 t256.size).toList = ([2, 0, 0, 0, 0, 0] : List UInt8) then (if t257 = 0 then (if bt258.1 = 1 then (if bt258.2.1 = 2 then (if bt258.2.2.1 = 0 then (if bt258.2.2.2.2.2 = 0 then (some (bt267.2 == 1)) else (none)) else (none)) else (none)) else (none)) else (none)) else (none)) else (none)) else (none)) else (none)) else (none)) else (none)))) = some r := H
 have A1 := Aside0.mk A10
 clear A10
 replace H := Option.bind_eq_some_iff.mp H
 obtain ⟨⟨t258, t259, t260, t261, t264, t265⟩, A20, H⟩ := H
 replace H : ((patch_Put.f 0 0 3 ([] : List (S107)) (⟨#[]⟩ : ByteArray)).bind fun bt267 => (if (t256.size : Int) = 26 then (if 0 ≤ 16 then (if 16 ≤ (t256.size : Int) then (if (t256.extract 0 16).toList = ([68, 73, 79, 80, 2, 1, 9, 1, 0, 0, 0, 2, 0, 0, 0, 0] : List UInt8) then (if 20 ≤ (t256.size : Int) then (if (t256.extract 20 t256.size).toList = ([2, 0, 0, 0, 0, 0] : List UInt8) then (if t257 = 0 then (if t258 = 1 then (if t259 = 2 then (if t260 = 0 then (if t265 = 0 then (some (bt267.2 == 1)) else (none)) else (none)) else (none)) else (none)) else (none)) else (none)) else (none)) else (none)) else (none)) else (none)) else (none))) = some r := H
 have A2 := Aside0.mk A20
 clear A20
 replace H := Option.bind_eq_some_iff.mp H
 obtain ⟨⟨t267, t268⟩, A30, H⟩ := H
 replace H : (if (t256.size : Int) = 26 then (if 0 ≤ 16 then (if 16 ≤ (t256.size : Int) then (if (t256.extract 0 16).toList = ([68, 73, 79, 80, 2, 1, 9, 1, 0, 0, 0, 2, 0, 0, 0, 0] : List UInt8) then (if 20 ≤ (t256.size : Int) then (if (t256.extract 20 t256.size).toList = ([2, 0, 0, 0, 0, 0] : List UInt8) then (if t257 = 0 then (if t258 = 1 then (if t259 = 2 then (if t260 = 0 then (if t265 = 0 then (some (t268 == 1)) else (none)) else (none)) else (none)) else (none)) else (none)) else (none)) else (none)) else (none)) else (none)) else (none)) else (none)) = some r := H
 have A3 := Aside0.mk A30
 clear A30
 by_cases c4 : (t256.size : Int) = 26
 ·rw [if_pos c4] at H
  have c4b0 : ((t256.size : Int) == 26) = true := beq_iff_eq.mpr c4
  have c4b1 : ((t256.size : Int) != 26) = false := bne_eq_false_iff_eq.mpr c4
  clear c4
  by_cases c5 : 0 ≤ 16
  ·rw [if_pos c5] at H
   have c5b0 := eq_true c5
   have c5b1 : decide (0 ≤ 16) = true := decide_eq_true c5
   clear c5
   by_cases c6 : 16 ≤ (t256.size : Int)
   ·rw [if_pos c6] at H
    have c6b0 := eq_true c6
    have c6b1 : decide (16 ≤ (t256.size : Int)) = true := decide_eq_true c6
    clear c6
    by_cases c7 : (t256.extract 0 16).toList = ([68, 73, 79, 80, 2, 1, 9, 1, 0, 0, 0, 2, 0, 0, 0, 0] : List UInt8)
    ·rw [if_pos c7] at H
     have c7b0 : ((t256.extract 0 16).toList == ([68, 73, 79, 80, 2, 1, 9, 1, 0, 0, 0, 2, 0, 0, 0, 0] : List UInt8)) = true := beq_iff_eq.mpr c7
     have c7b1 : ((t256.extract 0 16).toList != ([68, 73, 79, 80, 2, 1, 9, 1, 0, 0, 0, 2, 0, 0, 0, 0] : List UInt8)) = false := bne_eq_false_iff_eq.mpr c7
     clear c7
     by_cases c8 : 20 ≤ (t256.size : Int)
     ·rw [if_pos c8] at H
      have c8b0 := eq_true c8
      have c8b1 : decide (20 ≤ (t256.size : Int)) = true := decide_eq_true c8
      clear c8
      by_cases c9 : (t256.extract 20 t256.size).toList = ([2, 0, 0, 0, 0, 0] : List UInt8)
      ·rw [if_pos c9] at H
       have c9b0 : ((t256.extract 20 t256.size).toList == ([2, 0, 0, 0, 0, 0] : List UInt8)) = true := beq_iff_eq.mpr c9
       have c9b1 : ((t256.extract 20 t256.size).toList != ([2, 0, 0, 0, 0, 0] : List UInt8)) = false := bne_eq_false_iff_eq.mpr c9
       clear c9
       by_cases c10 : t257 = 0
       ·rw [if_pos c10] at H
        have c10b0 : (t257 == 0) = true := beq_iff_eq.mpr c10
        have c10b1 : (t257 != 0) = false := bne_eq_false_iff_eq.mpr c10
        clear c10
        by_cases c11 : t258 = 1
        ·rw [if_pos c11] at H
         have c11b0 : (t258 == 1) = true := beq_iff_eq.mpr c11
         have c11b1 : (t258 != 1) = false := bne_eq_false_iff_eq.mpr c11
         clear c11
         by_cases c12 : t259 = 2
         ·rw [if_pos c12] at H
          have c12b0 : (t259 == 2) = true := beq_iff_eq.mpr c12
          have c12b1 : (t259 != 2) = false := bne_eq_false_iff_eq.mpr c12
          clear c12
          by_cases c13 : t260 = 0
          ·rw [if_pos c13] at H
           have c13b0 : (t260 == 0) = true := beq_iff_eq.mpr c13
           have c13b1 : (t260 != 0) = false := bne_eq_false_iff_eq.mpr c13
           clear c13
           by_cases c14 : t265 = 0
           ·rw [if_pos c14] at H
            have c14b0 : (t265 == 0) = true := beq_iff_eq.mpr c14
            have c14b1 : (t265 != 0) = false := bne_eq_false_iff_eq.mpr c14
            clear c14
            obtain rfl := Option.some.inj H
            go_enter Try.func35, Try.ntmps35
            go_wp2_with (first | ((with_reducible refine gate_callee (f := 37) rfl ?_); refine goesL_ (some 9) rfl rfl Try.func37 (by kernel_rfl) rfl #[.agg #[.int .u32 1, .int .i64 2, .int .i64 0, .slice none 0 0, .string (⟨#[]⟩ : ByteArray)]] rfl zm ?_; (refine (patch_Put.calls 1 2 0 _ _ ([] : List (S107)) (⟨#[]⟩ : ByteArray) t256 t257 _ ?side1 ?side2 A1.out).mono ?_); (case side1 => exact Kd.C_nil _ _); (case side2 => exact Nat.le_refl _); rintro e w15 ⟨rfl, hb⟩; refine ⟨_, rfl, ?_⟩; have n0_ := Aside0.mk (below_step zb hb); clear HB; have HB := n0_; clear n0_; (try clear hb); (try clear hb2); (try clear hk); (try clear hi)) | ((with_reducible refine gate_callee (f := 39) rfl ?_); refine goesL_ (some 14) rfl rfl Try.func39 (by kernel_rfl) rfl #[.string t256] rfl zm ?_; (with_reducible refine (patch_Get.calls k t256 t258 t259 t260 t261 t264 t265 _ A2.out).mono ?_); rintro e w16 ⟨v262, rfl, ho0, hb⟩; refine ⟨_, rfl, ?_⟩; have n0_ := Aside0.mk (Kd.S_lower ho0 (below_size zb)); have n1_ := Aside0.mk (below_step zb hb); clear HB; have HO263 := n0_; have HB := n1_; clear n0_ n1_; (try clear hb); (try clear hb2); (try clear hk); (try clear hi); (try clear ho0)) | ((with_reducible refine gate_dst (N := 3) rfl ?_); refine box_event ?hg (N := 3) ?hd (cs := #[.int .u32 0, .int .i64 0, .int .i64 0, .slice none 0 0, .string (⟨#[]⟩ : ByteArray)]) (t := 57) ?hr ?_; (case hd => rfl); (case hg => rfl); (case hr => first | (go_simp; done) | (go_simp; rfl)); intro gb266 hg w17 hbox hb; have n0_ := Aside0.mk (Kd.S_below (by (with_reducible repeat (first | apply Kd.S_alloc | apply Kd.S_drewN | apply Kd.S_drew)); exact HO263.out) hb); have n1_ := Aside0.mk (below_step zb hb); have n2_ := Aside0.mk (hbox); have n3_ := Aside0.mk ((by rw [hg]; exact (below_size zb) : w.heap.size ≤ gb266)); have n4_ := Aside0.mk ((by rw [hg]; exact (below_size zb) : w.heap.size ≤ gb266)); clear HO263; clear HB; have HO263 := n0_; have HB := n1_; have BK266 := n2_; have GW266 := n3_; have GE266 := n4_; clear n0_ n1_ n2_ n3_ n4_; clear hb hbox hg; have hcz18_0 : w17.cell? ⟨gb266, 0, none⟩ = some (.int .u32 0) := (blk_cell BK266.out 0).trans rfl; have hcz18_1 : w17.cell? ⟨gb266, 1, none⟩ = some (.int .i64 0) := (blk_cell BK266.out 1).trans rfl; have hcz18_2 : w17.cell? ⟨gb266, 2, none⟩ = some (.int .i64 0) := (blk_cell BK266.out 2).trans rfl; have hcz18_3 : w17.cell? ⟨gb266, 3, none⟩ = some (.slice none 0 0) := (blk_cell BK266.out 3).trans rfl; have hcz18_4 : w17.cell? ⟨gb266, 4, none⟩ = some (.string (⟨#[]⟩ : ByteArray)) := (blk_cell BK266.out 4).trans rfl; have hfz18_0 := blk_frozen BK266.out 0; have hfz18_1 := blk_frozen BK266.out 1; have hfz18_2 := blk_frozen BK266.out 2; have hfz18_3 := blk_frozen BK266.out 3; have hfz18_4 := blk_frozen BK266.out 4; obtain ⟨Ao19, co19, eo19⟩ := Kd.S_slice HO263.out; subst eo19) | ((with_reducible refine gate_callee (f := 37) rfl ?_); refine goesL_ (some 19) rfl rfl Try.func37 (by kernel_rfl) rfl #[.agg #[.int .u32 0, .int .i64 0, .int .i64 3, .slice none 0 0, .string (⟨#[]⟩ : ByteArray)]] rfl zm ?_; (refine (patch_Put.calls 0 0 3 _ _ ([] : List (S107)) (⟨#[]⟩ : ByteArray) t267 t268 _ ?side1 ?side2 A3.out).mono ?_); (case side1 => exact Kd.C_nil _ _); (case side2 => exact Nat.le_refl _); rintro e w20 ⟨rfl, hb⟩; refine ⟨_, rfl, ?_⟩; have n0_ := Aside0.mk (Kd.S_below (by (with_reducible repeat (first | apply Kd.S_alloc | apply Kd.S_drewN | apply Kd.S_drew)); exact (Kd.S_mono (Kd.S_far (p := ⟨gb266, 4, none⟩) (Kd.S_far (p := ⟨gb266, 3, none⟩) (Kd.S_far (p := ⟨gb266, 2, none⟩) (Kd.S_far (p := ⟨gb266, 1, none⟩) (Kd.S_far (p := ⟨gb266, 0, none⟩) (Kd.S_types HO263.out BK266.out (by decide)) (fun _ hk => hk.2) (.int .u32 t258)) (fun _ hk => hk.2) (.int .i64 t259)) (fun _ hk => hk.2) (.int .i64 t260)) (fun _ hk => hk.2) (.slice Ao19 t261.length co19)) (fun _ hk => hk.2) (.string t264)) (fun _ h_ => h_.1))) hb); have n1_ := Aside0.mk (blk_below (g := gb266) (o := .cells #[.int .u32 t258, .int .i64 t259, .int .i64 t260, .slice Ao19 t261.length co19, .string t264] 57 (0, 0)) (by (with_reducible repeat (first | refine blk_drewN ?_ _ | refine blk_drew ?_ | refine blk_alloc ?_ _)); refine blk_put (cs := #[.int .u32 t258, .int .i64 t259, .int .i64 t260, .slice Ao19 t261.length co19, .string (⟨#[]⟩ : ByteArray)]) ?_ 4 _ rfl; (with_reducible repeat (first | refine blk_drewN ?_ _ | refine blk_drew ?_ | refine blk_alloc ?_ _)); refine blk_put (cs := #[.int .u32 t258, .int .i64 t259, .int .i64 t260, .slice none 0 0, .string (⟨#[]⟩ : ByteArray)]) ?_ 3 _ rfl; (with_reducible repeat (first | refine blk_drewN ?_ _ | refine blk_drew ?_ | refine blk_alloc ?_ _)); refine blk_put (cs := #[.int .u32 t258, .int .i64 t259, .int .i64 0, .slice none 0 0, .string (⟨#[]⟩ : ByteArray)]) ?_ 2 _ rfl; (with_reducible repeat (first | refine blk_drewN ?_ _ | refine blk_drew ?_ | refine blk_alloc ?_ _)); refine blk_put (cs := #[.int .u32 t258, .int .i64 0, .int .i64 0, .slice none 0 0, .string (⟨#[]⟩ : ByteArray)]) ?_ 1 _ rfl; (with_reducible repeat (first | refine blk_drewN ?_ _ | refine blk_drew ?_ | refine blk_alloc ?_ _)); refine blk_put (cs := #[.int .u32 0, .int .i64 0, .int .i64 0, .slice none 0 0, .string (⟨#[]⟩ : ByteArray)]) ?_ 0 _ rfl; (with_reducible repeat (first | refine blk_drewN ?_ _ | refine blk_drew ?_ | refine blk_alloc ?_ _)); exact BK266.out) hb); have n2_ := Aside0.mk (below_step zb hb); clear HO263; clear BK266; clear HB; have HO263 := n0_; have BK266 := n1_; have HB := n2_; clear n0_ n1_ n2_; (try clear hb); (try clear hb2); (try clear hk); (try clear hi); have hcz21_0 : w20.cell? ⟨gb266, 0, none⟩ = some (.int .u32 t258) := (blk_cell BK266.out 0).trans rfl; have hcz21_1 : w20.cell? ⟨gb266, 1, none⟩ = some (.int .i64 t259) := (blk_cell BK266.out 1).trans rfl; have hcz21_2 : w20.cell? ⟨gb266, 2, none⟩ = some (.int .i64 t260) := (blk_cell BK266.out 2).trans rfl; have hcz21_3 : w20.cell? ⟨gb266, 3, none⟩ = some (.slice Ao19 t261.length co19) := (blk_cell BK266.out 3).trans rfl; have hcz21_4 : w20.cell? ⟨gb266, 4, none⟩ = some (.string t264) := (blk_cell BK266.out 4).trans rfl; have hfz21_0 := blk_frozen BK266.out 0; have hfz21_1 := blk_frozen BK266.out 1; have hfz21_2 := blk_frozen BK266.out 2; have hfz21_3 := blk_frozen BK266.out 3; have hfz21_4 := blk_frozen BK266.out 4))
            go_ret
            exact ⟨ze, zb⟩
           ·rw [if_neg c14] at H
            exact absurd H (by simp)
          ·rw [if_neg c13] at H
           exact absurd H (by simp)
         ·rw [if_neg c12] at H
          exact absurd H (by simp)
        ·rw [if_neg c11] at H
         exact absurd H (by simp)
       ·rw [if_neg c10] at H
        exact absurd H (by simp)
      ·rw [if_neg c9] at H
       exact absurd H (by simp)
     ·rw [if_neg c8] at H
      exact absurd H (by simp)
    ·rw [if_neg c7] at H
     exact absurd H (by simp)
   ·rw [if_neg c6] at H
    exact absurd H (by simp)
  ·rw [if_neg c5] at H
   exact absurd H (by simp)
 ·rw [if_neg c4] at H
  exact absurd H (by simp)
end Go.Proofs.Ytdjpelcdijpihaa.PrintF
