/- A part of the proof of the claim: what it uses of the text PrintG3 (printed by xprint.py). -/
import Derived.Test.YtdjpelcdijpihaaVZ
import Derived.Test.YtdjpelcdijpihaaShort
import Derived.Test.YtdjpelcdijpihaaVHandRefText
import Derived.Test.YtdjpelcdijpihaaVPrintF0
import Derived.Test.YtdjpelcdijpihaaVPrintG1
import Derived.Test.YtdjpelcdijpihaaVPrintG2
namespace Go.Proofs.Ytdjpelcdijpihaa.PrintF
open Go.Proofs.Ytdjpelcdijpihaa.Print
open Go.RowKit Go.Proofs.YtdjpelcdijpihaaW.PrintWords Go.Proofs.YtdjpelcdijpihaaW.PrintLast Go.Proofs.YtdjpelcdijpihaaW.PrintMore
attribute [local go_sem] max2_int min2_int max_two min_two
set_option linter.unusedVariables false
set_option linter.unusedSimpArgs false
mutual
def dioramaref24_getSets.l0 : Nat → List (S127) → Int → Int → ByteArray → Int → Int → Option ((List (S127)) × ByteArray × Int × Int)
 | 0, _, _, _, _, _, _ => none
 | k + 1, x3, x4, x5, x1000, x1001, x1002 => if x5 < x4 then (dioramaref24_getSets.j1 k x3 x4 x5 (x1002 == 0) x1000 x1001 x1002) else (dioramaref24_getSets.j1 k x3 x4 x5 false x1000 x1001 x1002)
def dioramaref24_getSets.j1 : Nat → List (S127) → Int → Int → Bool → ByteArray → Int → Int → Option ((List (S127)) × ByteArray × Int × Int)
 | 0, _, _, _, _, _, _, _ => none
 | k + 1, x3, x4, x5, x20, x1000, x1001, x1002 => if x20 = true then ((dioramaref02_Cursor_Uint.f k x1000 x1001 x1002 16777216).bind fun bt199 => (if bt199.1 > 1 then ((dioramaref02_Cursor_Fail.f bt199.2.1 bt199.2.2.1 bt199.2.2.2 21).bind fun bt203 => (dioramaref24_getSets.j2 k x3 x4 x5 bt199.1 bt203.1 bt203.2.1 bt203.2.2)) else (dioramaref24_getSets.j2 k x3 x4 x5 bt199.1 bt199.2.1 bt199.2.2.1 bt199.2.2.2))) else (some (x3, x1000, x1001, x1002))
def dioramaref24_getSets.j2 : Nat → List (S127) → Int → Int → Int → ByteArray → Int → Int → Option ((List (S127)) × ByteArray × Int × Int)
 | 0, _, _, _, _, _, _, _ => none
 | k + 1, x3, x4, x5, x6, x1000, x1001, x1002 => (dioramaref02_Cursor_Uint.f k x1000 x1001 x1002 16777216).bind fun bt206 => (if x6 = 1 then ((dioramaref02_Cursor_Text.f k bt206.2.1 bt206.2.2.1 bt206.2.2.2 16777216).bind fun bt211 => (if x3.length < 3518437208883 then (dioramaref24_getSets.l0 k (x3 ++ [(⟨(x6 == 1), bt206.1, 0, bt211.1⟩ : S127)]) x4 (wrap64 (x5 + 1)) bt211.2.1 bt211.2.2.1 bt211.2.2.2) else (none))) else ((dioramaref02_Cursor_Int.f k bt206.2.1 bt206.2.2.1 bt206.2.2.2).bind fun bt218 => (if x3.length < 3518437208883 then (dioramaref24_getSets.l0 k (x3 ++ [(⟨(x6 == 1), bt206.1, bt218.1, (⟨#[]⟩ : ByteArray)⟩ : S127)]) x4 (wrap64 (x5 + 1)) bt218.2.1 bt218.2.2.1 bt218.2.2.2) else (none))))
end
def dioramaref24_getSets.f (k : Nat) (s0_0 : ByteArray) (s0_1 : Int) (s0_2 : Int) : Option ((List (S127)) × ByteArray × Int × Int) := (dioramaref02_Cursor_Uint.f k s0_0 s0_1 s0_2 16777216).bind fun bt195 => (dioramaref24_getSets.l0 k (([] : List (S127))) bt195.1 0 bt195.2.1 bt195.2.2.1 bt195.2.2.2)
set_option maxHeartbeats 8000000 in
set_option maxRecDepth 100000 in
theorem dioramaref24_getSets.calls (k : Nat) (g : Nat) (s0_0 : ByteArray) (s0_1 : Int) (s0_2 : Int) (r1 : List (S127)) (r2 : ByteArray) (r3 : Int) (r4 : Int) (w0 w : World) (hI : IsS116 w0 w g s0_0 s0_1 s0_2) (hB : Below w0.heap.size w0 w) (h : dioramaref24_getSets.f k s0_0 s0_1 s0_2 = some (r1, r2, r3, r4)) :
  Calls Try.prog 92 #[.pointer (some ⟨g, 0, none⟩)] w fun e w' => ∃ v0_ : Value, e = .returned (v0_) ∧ Kd.R k127 127 w' w.heap.size (fun _ => True) v0_ r1 ∧ IsS116 w0 w' g r2 r3 r4 ∧ Below w0.heap.size w0 w' ∧ KeepBut w w' g none := by
 have hu127 := Try.underlying127
 have HI0 := Aside0.mk hI
 have HK := Aside0.mk (KeepBut.refl w g none)
 have HL := Aside0.mk hB.size
 clear hI
 have HW0 := Aside0.mk hB.size
 have HB := Aside0.mk hB
 clear hB
 have H : ((dioramaref02_Cursor_Uint.f k s0_0 s0_1 s0_2 16777216).bind fun bt195 => (dioramaref24_getSets.l0 k (([] : List (S127))) bt195.1 0 bt195.2.1 bt195.2.2.1 bt195.2.2.2)) = some (r1, r2, r3, r4) := h
 clear h
 obtain ⟨y192, hy192⟩ : ∃ y_ : List (S127), y_ = (([] : List (S127))) := ⟨_, rfl⟩
 replace H : ((dioramaref02_Cursor_Uint.f k s0_0 s0_1 s0_2 16777216).bind fun bt195 => (dioramaref24_getSets.l0 k y192 bt195.1 0 bt195.2.1 bt195.2.2.1 bt195.2.2.2)) = some (r1, r2, r3, r4) := by first | (rw [hy192]; with_reducible exact H) | (have H2_ := (Option.bind_some _ _).symm.trans H; rw [hy192]; with_reducible exact H2_) | (have H2_ := (Option.bind_some _ _).symm.trans H; with_reducible exact H2_) | with_reducible exact H | (rw [hy192]; exact H) | exact H
 have Ny192 := Aside0.mk hy192
 clear hy192
 replace H := Option.bind_eq_some_iff.mp H
 obtain ⟨⟨t195, t196, t197, t198⟩, A20, H⟩ := H
 replace H : (dioramaref24_getSets.l0 k y192 t195 0 t196 t197 t198) = some (r1, r2, r3, r4) := H
 have A2 := Aside0.mk A20
 clear A20
 have H' := Aside0.mk H
 clear H
 go_enter Try.func92, Try.ntmps92
 go_wp2_with (first | ((with_reducible refine gate_dst (N := 8) rfl ?_); refine Kd.R_lit k127 _ 127 ?hg (N := 8) ?hd (xs := ([] : List (S127))) (inner := []) (ok := fun _ => True) (okp := fun _ => True) ?hr ?hp (fun _ hk => hk) trivial (Below.refl _ _) (Nat.le_refl _) (by simp) ?_; (case hd => rfl); (case hg => rfl); (case hr => first | (go_simp; done) | (go_simp; rfl)); (case hp => exact (Reps.none _ _)); intro v193 w3 ho4 hb hg_ hnew_; clear hg_ hnew_; (first | rw [← Ny192.out] at ho4 | (simp only [Int.reduceToNat] at ho4; rw [← Ny192.out] at ho4)); have n0_ := Aside0.mk (Kd.R_lower ho4 (keep_size (w := w) (g := g) (row := none) zk)); have n1_ := Aside0.mk (IsS116.below zi6 hb); have n2_ := Aside0.mk (KeepBut.trans zk (KeepBut.of_below hb g none) (.inl rfl)); have n3_ := Aside0.mk (below_step zb hb); clear HI0; clear HK; clear HB; have HO194 := n0_; have HI0 := n1_; have HK := n2_; have HB := n3_; clear n0_ n1_ n2_ n3_; clear hb ho4) | ((with_reducible refine gate_callee (f := 67) rfl ?_); refine goesL_ (some 10) rfl rfl Try.func67 (by kernel_rfl) rfl #[.pointer (some ⟨g, 0, none⟩), .int .u64 16777216] rfl zm ?_; (with_reducible refine (dioramaref02_Cursor_Uint.calls k g s0_0 s0_1 s0_2 16777216 t195 t196 t197 t198 w0 _ ?side1 ?side2 A2.out).mono ?_); (case side1 => exact zi6); (case side2 => exact zb); rintro e w5 ⟨rfl, hi, hb, hk⟩; refine ⟨_, rfl, ?_⟩; have n0_ := Aside0.mk (Kd.R_mono (Kd.R_keep (IsS116.apart (show IsS116 w0 _ g s0_0 s0_1 s0_2 from zi6) (by (with_reducible repeat (first | apply Kd.R_alloc | apply Kd.R_drewN | apply Kd.R_drew)); exact HO194.out) (by decide)) hk (fun _ h => h.2)) (fun _ h => h.1)); have n1_ := Aside0.mk (KeepBut.trans zk hk (.inl rfl)); have n2_ := Aside0.mk (hb); have n3_ := Aside0.mk (hi); clear HO194; clear HK; clear HB; clear HI0; have HO194 := n0_; have HK := n1_; have HB := n2_; have HI0 := n3_; clear n0_ n1_ n2_ n3_; (try clear hb); (try clear hb2); (try clear hk); (try clear hi)))
 go_loopg [3, 5] k (fun kq v3 v5 w' => ∃ (x3_1 : List (S127)) (x5_1 : Int) (x1000_1 : ByteArray) (x1001_1 : Int) (x1002_1 : Int), v5 = .int .i64 x5_1 ∧ Aside0 (dioramaref24_getSets.l0 kq x3_1 t195 x5_1 x1000_1 x1001_1 x1002_1 = some (r1, r2, r3, r4)) ∧ Aside0 (kq ≤ k) ∧ Aside0 (Kd.R k127 127 w' w.heap.size (fun _ => True) v3 x3_1) ∧ Aside0 (IsS116 w0 w' g x1000_1 x1001_1 x1002_1) ∧ Aside0 (KeepBut w w' g none) ∧ Aside0 (Below w0.heap.size w0 w'))
 case atStart => exact ⟨(y192), (0), (t196), (t197), (t198), zr, H', ⟨Nat.le_refl _⟩, ⟨by (with_reducible repeat (first | apply Kd.R_alloc | apply Kd.R_drewN | apply Kd.R_drew)); exact HO194.out⟩, ⟨zi6⟩, ⟨zk⟩, ⟨zb⟩⟩
 case round =>
  clear H'
  try clear p2
  obtain ⟨x3_1, x5_1, x1000_1, x1001_1, x1002_1, rfl, HA, HK1, HO_3, HI0, HK, HB⟩ := hrel
  cases gk with
  | zero => exact absurd HA.out (by simp [dioramaref24_getSets.l0])
  | succ k1 =>
   have H := HA.out
   clear HA
   simp only [dioramaref24_getSets.l0] at H
   have HC6 := Aside0.mk H
   clear H
   go_upto_region 4 with (fail)
   go_cut [20] (fun v20 wc => ∃ (kq : Nat) (x20_5 : Bool), v20 = .bool x20_5 ∧ Aside0 (dioramaref24_getSets.j1 kq x3_1 t195 x5_1 x20_5 x1000_1 x1001_1 x1002_1 = some (r1, r2, r3, r4)) ∧ Aside0 (kq ≤ k1) ∧ Aside0 (Kd.R k127 127 wc w.heap.size (fun _ => True) u3 x3_1) ∧ Aside0 (IsS116 w0 wc g x1000_1 x1001_1 x1002_1) ∧ Aside0 (KeepBut w wc g none) ∧ Aside0 (Below w0.heap.size w0 wc))
   case first =>
    have H := HC6.out
    clear HC6
    by_cases c7 : x5_1 < t195
    ·rw [if_pos c7] at H
     have c7b0 : decide (x5_1 < t195) = true := decide_eq_true c7
     clear c7
     (first | rw [c7b0] | (simp only [i64_w]; rw [c7b0]) | skip)
     have H' := Aside0.mk H
     clear H
     obtain ⟨HGz8, hgz8⟩ := HI0.out
     have hcz8_0 := cellS116_0 HGz8
     have hcz8_1 := cellS116_1 HGz8
     have hcz8_2 := cellS116_2 HGz8
     have hfz8_0 := blk_frozen HGz8 0
     have hfz8_1 := blk_frozen HGz8 1
     have hfz8_2 := blk_frozen HGz8 2
     clear HGz8 hgz8
     go_wp2
     go_meet
     case rel => exact ⟨_, ((x1002_1 == 0)), zr, H', ⟨by have := HK1.out; first | omega | exact Nat.le_refl _⟩, ⟨by (with_reducible repeat (first | apply Kd.R_alloc | apply Kd.R_drewN | apply Kd.R_drew)); exact HO_3.out⟩, ⟨zi6⟩, ⟨zk⟩, ⟨zb⟩⟩
    ·rw [if_neg c7] at H
     have c7b0 : decide (x5_1 < t195) = false := decide_eq_false c7
     clear c7
     (first | rw [c7b0] | (simp only [i64_w]; rw [c7b0]) | skip)
     have H' := Aside0.mk H
     clear H
     go_wp2
     go_meet
     case rel => exact ⟨_, (false), zr, H', ⟨by have := HK1.out; first | omega | exact Nat.le_refl _⟩, ⟨by (with_reducible repeat (first | apply Kd.R_alloc | apply Kd.R_drewN | apply Kd.R_drew)); exact HO_3.out⟩, ⟨zi6⟩, ⟨zk⟩, ⟨zb⟩⟩
   case rest =>
    clear HC6
    try clear p2
    try clear c6
    try clear c7
    try clear c7b0
    try clear hcz8_0
    try clear hcz8_1
    try clear hcz8_2
    try clear hfz8_0
    try clear hfz8_1
    try clear hfz8_2
    try clear p2
    obtain ⟨kq, x20_5, rfl, HA, HJ5, HO_3, HI0, HK, HB⟩ := hcut
    cases kq with
    | zero => exact absurd HA.out (by simp [dioramaref24_getSets.j1])
    | succ kj5 =>
     have H := HA.out
     clear HA
     simp only [dioramaref24_getSets.j1] at H
     by_cases c9 : x20_5 = true
     ·subst c9
      have H1 : ((dioramaref02_Cursor_Uint.f kj5 x1000_1 x1001_1 x1002_1 16777216).bind fun bt199 => (if bt199.1 > 1 then ((dioramaref02_Cursor_Fail.f bt199.2.1 bt199.2.2.1 bt199.2.2.2 21).bind fun bt203 => (dioramaref24_getSets.j2 kj5 x3_1 t195 x5_1 bt199.1 bt203.1 bt203.2.1 bt203.2.2)) else (dioramaref24_getSets.j2 kj5 x3_1 t195 x5_1 bt199.1 bt199.2.1 bt199.2.2.1 bt199.2.2.2))) = some (r1, r2, r3, r4) := by rw [if_pos rfl] at H; exact H
      clear H
      have H := H1
      clear H1
      replace H := Option.bind_eq_some_iff.mp H
      obtain ⟨⟨t199, t200, t201, t202⟩, A100, H⟩ := H
      replace H : (if t199 > 1 then ((dioramaref02_Cursor_Fail.f t200 t201 t202 21).bind fun bt203 => (dioramaref24_getSets.j2 kj5 x3_1 t195 x5_1 t199 bt203.1 bt203.2.1 bt203.2.2)) else (dioramaref24_getSets.j2 kj5 x3_1 t195 x5_1 t199 t200 t201 t202)) = some (r1, r2, r3, r4) := H
      have A10 := Aside0.mk A100
      clear A100
      have HC11 := Aside0.mk H
      clear H
      go_upto_if 26 with (first | ((with_reducible refine gate_callee (f := 67) rfl ?_); refine goesL_ (some 24) rfl rfl Try.func67 (by kernel_rfl) rfl #[.pointer (some ⟨g, 0, none⟩), .int .u64 16777216] rfl zm ?_; (with_reducible refine (dioramaref02_Cursor_Uint.calls kj5 g x1000_1 x1001_1 x1002_1 16777216 t199 t200 t201 t202 w0 _ ?side1 ?side2 A10.out).mono ?_); (case side1 => exact zi6); (case side2 => exact zb); rintro e w12 ⟨rfl, hi, hb, hk⟩; refine ⟨_, rfl, ?_⟩; have n0_ := Aside0.mk (Kd.R_mono (Kd.R_keep (IsS116.apart (show IsS116 w0 _ g x1000_1 x1001_1 x1002_1 from zi6) (by (with_reducible repeat (first | apply Kd.R_alloc | apply Kd.R_drewN | apply Kd.R_drew)); exact HO_3.out) (by decide)) hk (fun _ h => h.2)) (fun _ h => h.1)); have n1_ := Aside0.mk (KeepBut.trans zk hk (.inl rfl)); have n2_ := Aside0.mk (hb); have n3_ := Aside0.mk (hi); clear HO_3; clear HK; clear HB; clear HI0; have HO_3 := n0_; have HK := n1_; have HB := n2_; have HI0 := n3_; clear n0_ n1_ n2_ n3_; (try clear hb); (try clear hb2); (try clear hk); (try clear hi)))
      (try simp only [Act.put, zq1, zq2, zq3])
      go_cut [] (fun wc => ∃ (kq : Nat) (x1000_10 : ByteArray) (x1001_10 : Int) (x1002_10 : Int), Aside0 (dioramaref24_getSets.j2 kq x3_1 t195 x5_1 t199 x1000_10 x1001_10 x1002_10 = some (r1, r2, r3, r4)) ∧ Aside0 (kq ≤ kj5) ∧ Aside0 (Kd.R k127 127 wc w.heap.size (fun _ => True) u3 x3_1) ∧ Aside0 (IsS116 w0 wc g x1000_10 x1001_10 x1002_10) ∧ Aside0 (KeepBut w wc g none) ∧ Aside0 (Below w0.heap.size w0 wc))
      case first =>
       have H := HC11.out
       clear HC11
       by_cases c13 : t199 > 1
       ·rw [if_pos c13] at H
        have c13b0 : decide (1 < t199) = true := decide_eq_true c13
        clear c13
        (first | rw [c13b0] | (simp only [i64_w]; rw [c13b0]) | skip)
        replace H := Option.bind_eq_some_iff.mp H
        obtain ⟨⟨t203, t204, t205⟩, A140, H⟩ := H
        replace H : (dioramaref24_getSets.j2 kj5 x3_1 t195 x5_1 t199 t203 t204 t205) = some (r1, r2, r3, r4) := H
        have A14 := Aside0.mk A140
        clear A140
        have H' := Aside0.mk H
        clear H
        go_wp2_with (first | ((with_reducible refine gate_callee (f := 95) rfl ?_); refine goesL_ (some 28) rfl rfl Try.func95 (by kernel_rfl) rfl #[.pointer (some ⟨g, 0, none⟩), .int .i64 21] rfl zm ?_; (with_reducible refine (dioramaref02_Cursor_Fail.calls g t200 t201 t202 21 t203 t204 t205 w0 _ ?side1 ?side2 A14.out).mono ?_); (case side1 => exact zi6); (case side2 => exact zb); rintro e w15 ⟨rfl, hi, hb, hk⟩; refine ⟨_, rfl, ?_⟩; have n0_ := Aside0.mk (Kd.R_mono (Kd.R_keep (IsS116.apart (show IsS116 w0 _ g t200 t201 t202 from zi6) (by (with_reducible repeat (first | apply Kd.R_alloc | apply Kd.R_drewN | apply Kd.R_drew)); exact HO_3.out) (by decide)) hk (fun _ h => h.2)) (fun _ h => h.1)); have n1_ := Aside0.mk (KeepBut.trans zk hk (.inl rfl)); have n2_ := Aside0.mk (hb); have n3_ := Aside0.mk (hi); clear HO_3; clear HK; clear HB; clear HI0; have HO_3 := n0_; have HK := n1_; have HB := n2_; have HI0 := n3_; clear n0_ n1_ n2_ n3_; (try clear hb); (try clear hb2); (try clear hk); (try clear hi)))
        go_meet
        case rel => exact ⟨_, (t203), (t204), (t205), H', ⟨by have := HK1.out; have := HJ5.out; first | omega | exact Nat.le_refl _⟩, ⟨by (with_reducible repeat (first | apply Kd.R_alloc | apply Kd.R_drewN | apply Kd.R_drew)); exact HO_3.out⟩, ⟨zi6⟩, ⟨zk⟩, ⟨zb⟩⟩
       ·rw [if_neg c13] at H
        have c13b0 : decide (1 < t199) = false := decide_eq_false c13
        clear c13
        (first | rw [c13b0] | (simp only [i64_w]; rw [c13b0]) | skip)
        have H' := Aside0.mk H
        clear H
        go_wp2
        go_meet
        case rel => exact ⟨_, (t200), (t201), (t202), H', ⟨by have := HK1.out; have := HJ5.out; first | omega | exact Nat.le_refl _⟩, ⟨by (with_reducible repeat (first | apply Kd.R_alloc | apply Kd.R_drewN | apply Kd.R_drew)); exact HO_3.out⟩, ⟨zi6⟩, ⟨zk⟩, ⟨zb⟩⟩
      case rest =>
       clear HC11
       try clear c1
       try clear p2
       try clear c6
       try clear c7
       try clear c7b0
       try clear c9
       try clear c13
       try clear c13b0
       try clear hcz8_0
       try clear hcz8_1
       try clear hcz8_2
       try clear hfz8_0
       try clear hfz8_1
       try clear hfz8_2
       try clear p2
       obtain ⟨kq, x1000_10, x1001_10, x1002_10, HA, HJ10, HO_3, HI0, HK, HB⟩ := hcut
       cases kq with
       | zero => exact absurd HA.out (by simp [dioramaref24_getSets.j2])
       | succ kj10 =>
        have H := HA.out
        clear HA
        simp only [dioramaref24_getSets.j2] at H
        replace H := Option.bind_eq_some_iff.mp H
        obtain ⟨⟨t206, t207, t208, t209⟩, A160, H⟩ := H
        replace H : (if t199 = 1 then ((dioramaref02_Cursor_Text.f kj10 t207 t208 t209 16777216).bind fun bt211 => (if x3_1.length < 3518437208883 then (dioramaref24_getSets.l0 kj10 (x3_1 ++ [(⟨(t199 == 1), t206, 0, bt211.1⟩ : S127)]) t195 (wrap64 (x5_1 + 1)) bt211.2.1 bt211.2.2.1 bt211.2.2.2) else (none))) else ((dioramaref02_Cursor_Int.f kj10 t207 t208 t209).bind fun bt218 => (if x3_1.length < 3518437208883 then (dioramaref24_getSets.l0 kj10 (x3_1 ++ [(⟨(t199 == 1), t206, bt218.1, (⟨#[]⟩ : ByteArray)⟩ : S127)]) t195 (wrap64 (x5_1 + 1)) bt218.2.1 bt218.2.2.1 bt218.2.2.2) else (none)))) = some (r1, r2, r3, r4) := H
        have A16 := Aside0.mk A160
        clear A160
        by_cases c17 : t199 = 1
        ·rw [if_pos c17] at H
         have c17b0 : (t199 == 1) = true := beq_iff_eq.mpr c17
         have c17b1 : (t199 != 1) = false := bne_eq_false_iff_eq.mpr c17
         clear c17
         rw [c17b0] at H
         replace H := Option.bind_eq_some_iff.mp H
         obtain ⟨⟨t211, t212, t213, t214⟩, A180, H⟩ := H
         replace H : (if x3_1.length < 3518437208883 then (dioramaref24_getSets.l0 kj10 (x3_1 ++ [(⟨true, t206, 0, t211⟩ : S127)]) t195 (wrap64 (x5_1 + 1)) t212 t213 t214) else (none)) = some (r1, r2, r3, r4) := H
         have A18 := Aside0.mk A180
         clear A180
         by_cases c19 : x3_1.length < 3518437208883
         ·rw [if_pos c19] at H
          have LMc19 := Aside0.mk c19
          clear c19
          obtain ⟨y215, hy215⟩ : ∃ y_ : List (S127), y_ = (x3_1 ++ [(⟨true, t206, 0, t211⟩ : S127)]) := ⟨_, rfl⟩
          replace H : (dioramaref24_getSets.l0 kj10 y215 t195 (wrap64 (x5_1 + 1)) t212 t213 t214) = some (r1, r2, r3, r4) := by first | (rw [hy215]; with_reducible exact H) | (have H2_ := (Option.bind_some _ _).symm.trans H; rw [hy215]; with_reducible exact H2_) | (have H2_ := (Option.bind_some _ _).symm.trans H; with_reducible exact H2_) | with_reducible exact H | (rw [hy215]; exact H) | exact H
          have Ny215 := Aside0.mk hy215
          clear hy215
          have H' := Aside0.mk H
          clear H
          go_wp2_with (first | ((with_reducible refine gate_callee (f := 67) rfl ?_); refine goesL_ (some 32) rfl rfl Try.func67 (by kernel_rfl) rfl #[.pointer (some ⟨g, 0, none⟩), .int .u64 16777216] rfl zm ?_; (with_reducible refine (dioramaref02_Cursor_Uint.calls kj10 g x1000_10 x1001_10 x1002_10 16777216 t206 t207 t208 t209 w0 _ ?side1 ?side2 A16.out).mono ?_); (case side1 => exact zi6); (case side2 => exact zb); rintro e w20 ⟨rfl, hi, hb, hk⟩; refine ⟨_, rfl, ?_⟩; have n0_ := Aside0.mk (Kd.R_mono (Kd.R_keep (IsS116.apart (show IsS116 w0 _ g x1000_10 x1001_10 x1002_10 from zi6) (by (with_reducible repeat (first | apply Kd.R_alloc | apply Kd.R_drewN | apply Kd.R_drew)); exact HO_3.out) (by decide)) hk (fun _ h => h.2)) (fun _ h => h.1)); have n1_ := Aside0.mk (KeepBut.trans zk hk (.inl rfl)); have n2_ := Aside0.mk (hb); have n3_ := Aside0.mk (hi); clear HO_3; clear HK; clear HB; clear HI0; have HO_3 := n0_; have HK := n1_; have HB := n2_; have HI0 := n3_; clear n0_ n1_ n2_ n3_; (try clear hb); (try clear hb2); (try clear hk); (try clear hi)) | ((with_reducible refine gate_dst (N := 7) rfl ?_); refine box_event ?hg (N := 7) ?hd (cs := #[.bool false, .int .i64 0, .int .i64 0, .string (⟨#[]⟩ : ByteArray)]) (t := 127) ?hr ?_; (case hd => rfl); (case hg => rfl); (case hr => first | (go_simp; done) | (go_simp; rfl)); intro gb210 hg w21 hbox hb; have n0_ := Aside0.mk (Kd.R_below (Kd.R_elderB (by (with_reducible repeat (first | apply Kd.R_alloc | apply Kd.R_drewN | apply Kd.R_drew)); exact HO_3.out) gb210 (Nat.le_of_eq hg.symm)) hb); have n1_ := Aside0.mk (IsS116.below zi6 hb); have n2_ := Aside0.mk (KeepBut.trans zk (KeepBut.of_below hb g none) (.inl rfl)); have n3_ := Aside0.mk (below_step zb hb); have n4_ := Aside0.mk (hbox); have n5_ := Aside0.mk ((by rw [hg]; exact (keep_size (w := w) (g := g) (row := none) zk) : w.heap.size ≤ gb210)); have n6_ := Aside0.mk ((Nat.le_trans HW0.out (by rw [hg]; exact (keep_size (w := w) (g := g) (row := none) zk) : w.heap.size ≤ gb210) : w0.heap.size ≤ gb210)); have n7_ := Aside0.mk ((by rw [hg]; exact Nat.ne_of_lt (IsS116.lt (show IsS116 w0 _ g t207 t208 t209 from zi6)) : g ≠ gb210)); have n8_ := Aside0.mk ((by rw [hg]; exact Nat.ne_of_gt (IsS116.lt (show IsS116 w0 _ g t207 t208 t209 from zi6)) : gb210 ≠ g)); clear HO_3; clear HI0; clear HK; clear HB; have HO_3 := n0_; have HI0 := n1_; have HK := n2_; have HB := n3_; have BK210 := n4_; have GW210 := n5_; have GE210 := n6_; have NB0_210 := n7_; have NB210_0 := n8_; clear n0_ n1_ n2_ n3_ n4_ n5_ n6_ n7_ n8_; clear hb hbox hg; have hnb22 := NB210_0.out; have hnc22 := NB0_210.out; have hcz23_0 : w21.cell? ⟨gb210, 0, none⟩ = some (.bool false) := (blk_cell BK210.out 0).trans rfl; have hcz23_1 : w21.cell? ⟨gb210, 1, none⟩ = some (.int .i64 0) := (blk_cell BK210.out 1).trans rfl; have hcz23_2 : w21.cell? ⟨gb210, 2, none⟩ = some (.int .i64 0) := (blk_cell BK210.out 2).trans rfl; have hcz23_3 : w21.cell? ⟨gb210, 3, none⟩ = some (.string (⟨#[]⟩ : ByteArray)) := (blk_cell BK210.out 3).trans rfl; have hfz23_0 := blk_frozen BK210.out 0; have hfz23_1 := blk_frozen BK210.out 1; have hfz23_2 := blk_frozen BK210.out 2; have hfz23_3 := blk_frozen BK210.out 3) | ((with_reducible refine gate_callee (f := 107) rfl ?_); refine goesL_ (some 37) rfl rfl Try.func107 (by kernel_rfl) rfl #[.pointer (some ⟨g, 0, none⟩), .int .i64 16777216] rfl zm ?_; (with_reducible refine (dioramaref02_Cursor_Text.calls kj10 g t207 t208 t209 16777216 t211 t212 t213 t214 w0 _ ?side1 ?side2 A18.out).mono ?_); (case side1 => exact zi6); (case side2 => exact zb); rintro e w24 ⟨rfl, hi, hb, hk⟩; refine ⟨_, rfl, ?_⟩; have n0_ := Aside0.mk (Kd.R_mono (Kd.R_keep (IsS116.apart (show IsS116 w0 _ g t207 t208 t209 from zi6) (by (with_reducible repeat (first | apply Kd.R_alloc | apply Kd.R_drewN | apply Kd.R_drew)); exact (Kd.R_mono (Kd.R_far (p := ⟨gb210, 3, none⟩) (Kd.R_far (p := ⟨gb210, 2, none⟩) (Kd.R_far (p := ⟨gb210, 1, none⟩) (Kd.R_far (p := ⟨gb210, 0, none⟩) (Kd.R_mono HO_3.out (fun k_ hk => (⟨hk, hk.2⟩ : _ ∧ k_ ≠ gb210))) (fun _ hk => hk.2) (.bool true)) (fun _ hk => hk.2) (.int .i64 t206)) (fun _ hk => hk.2) (.int .i64 0)) (fun _ hk => hk.2) (.string (⟨#[]⟩ : ByteArray))) (fun _ h_ => h_.1))) (by decide)) hk (fun _ h => h.2)) (fun _ h => h.1)); have n1_ := Aside0.mk (KeepBut.blk hk (g' := gb210) (o := .cells #[.bool true, .int .i64 t206, .int .i64 0, .string (⟨#[]⟩ : ByteArray)] 127 (0, 0)) (by (with_reducible repeat (first | refine blk_drewN ?_ _ | refine blk_drew ?_ | refine blk_alloc ?_ _)); refine blk_put (cs := #[.bool true, .int .i64 t206, .int .i64 0, .string (⟨#[]⟩ : ByteArray)]) ?_ 3 _ rfl; (with_reducible repeat (first | refine blk_drewN ?_ _ | refine blk_drew ?_ | refine blk_alloc ?_ _)); refine blk_put (cs := #[.bool true, .int .i64 t206, .int .i64 0, .string (⟨#[]⟩ : ByteArray)]) ?_ 2 _ rfl; (with_reducible repeat (first | refine blk_drewN ?_ _ | refine blk_drew ?_ | refine blk_alloc ?_ _)); refine blk_put (cs := #[.bool true, .int .i64 0, .int .i64 0, .string (⟨#[]⟩ : ByteArray)]) ?_ 1 _ rfl; (with_reducible repeat (first | refine blk_drewN ?_ _ | refine blk_drew ?_ | refine blk_alloc ?_ _)); refine blk_put (cs := #[.bool false, .int .i64 0, .int .i64 0, .string (⟨#[]⟩ : ByteArray)]) ?_ 0 _ rfl; (with_reducible repeat (first | refine blk_drewN ?_ _ | refine blk_drew ?_ | refine blk_alloc ?_ _)); exact BK210.out) NB210_0.out (by simp)); have n2_ := Aside0.mk (KeepBut.trans zk hk (.inl rfl)); have n3_ := Aside0.mk (hb); have n4_ := Aside0.mk (hi); clear HO_3; clear BK210; clear HK; clear HB; clear HI0; have HO_3 := n0_; have BK210 := n1_; have HK := n2_; have HB := n3_; have HI0 := n4_; clear n0_ n1_ n2_ n3_ n4_; (try clear hb); (try clear hb2); (try clear hk); (try clear hi); have hcz25_0 : w24.cell? ⟨gb210, 0, none⟩ = some (.bool true) := (blk_cell BK210.out 0).trans rfl; have hcz25_1 : w24.cell? ⟨gb210, 1, none⟩ = some (.int .i64 t206) := (blk_cell BK210.out 1).trans rfl; have hcz25_2 : w24.cell? ⟨gb210, 2, none⟩ = some (.int .i64 0) := (blk_cell BK210.out 2).trans rfl; have hcz25_3 : w24.cell? ⟨gb210, 3, none⟩ = some (.string (⟨#[]⟩ : ByteArray)) := (blk_cell BK210.out 3).trans rfl; have hfz25_0 := blk_frozen BK210.out 0; have hfz25_1 := blk_frozen BK210.out 1; have hfz25_2 := blk_frozen BK210.out 2; have hfz25_3 := blk_frozen BK210.out 3) | ((with_reducible refine gate_builtin (b := .append) (xs := #[.tmp 42, .tmp 44]) rfl ?_); at_builtin; refine Kd.R_append k127 w.heap.size rfl (.tmp 42) (.tmp 44) 99 127 (.agg #[(.bool false), (.int .i64 0), (.int .i64 0), (.string ⟨#[]⟩)]) 40 rfl Try.underlying99 info127 rfl (by decide) (by omega) u3 x3_1 (⟨true, t206, 0, t211⟩ : S127) [.bool true, .int .i64 t206, .int .i64 0, .string t211] (fun k_ => k_ ≠ gb210) (fun _ => False) rfl (by first | (go_simp; done) | (go_simp; rfl)) ?aP (fun _ hk => hk.elim) ?aF ?aO (Below.refl _ _) ?aS ?aL ?_; (case aP => exact k127_mkM _ _ _ (⟨true, t206, 0, t211⟩ : S127)); (case aF => exact (fun k_ hk => Kd.freshB (g := gb210) (o := .cells #[.bool true, .int .i64 t206, .int .i64 0, .string t211] 127 (0, 0)) (by (with_reducible repeat (first | refine blk_drewN ?_ _ | refine blk_drew ?_ | refine blk_alloc ?_ _)); refine blk_put (cs := #[.bool true, .int .i64 t206, .int .i64 0, .string (⟨#[]⟩ : ByteArray)]) ?_ 3 _ rfl; (with_reducible repeat (first | refine blk_drewN ?_ _ | refine blk_drew ?_ | refine blk_alloc ?_ _)); exact BK210.out) k_ hk)); (case aO => exact (by (with_reducible repeat (first | apply Kd.R_alloc | apply Kd.R_drewN | apply Kd.R_drew)); exact Kd.R_mono (Kd.R_far (p := ⟨gb210, 3, none⟩) (Kd.R_mono HO_3.out (fun k_ hk => (⟨hk, hk.2⟩ : _ ∧ k_ ≠ gb210))) (fun _ hk => hk.2) (.string t211)) (fun _ hk => hk.1.2))); (case aS => exact (keep_size (w := w) (g := g) (row := none) zk)); (case aL => have := LMc19.out; omega); intro v216 w26 ho hb hg hat; rw [← Ny215.out] at ho; have n0_ := Aside0.mk (IsS116.grown (show IsS116 w0 _ g t212 t213 t214 from zi6) hg (IsS116.own_ne HI0.out HO_3.out (by decide))); have n1_ := Aside0.mk (blk_grown (g := gb210) (o := .cells #[.bool true, .int .i64 t206, .int .i64 0, .string t211] 127 (0, 0)) (by (with_reducible repeat (first | refine blk_drewN ?_ _ | refine blk_drew ?_ | refine blk_alloc ?_ _)); refine blk_put (cs := #[.bool true, .int .i64 t206, .int .i64 0, .string (⟨#[]⟩ : ByteArray)]) ?_ 3 _ rfl; (with_reducible repeat (first | refine blk_drewN ?_ _ | refine blk_drew ?_ | refine blk_alloc ?_ _)); exact BK210.out) hg (Kd.R_away HO_3.out (fun _ hk => hk.2))); have n2_ := Aside0.mk (below_weaken zb HL.out hb); have n3_ := Aside0.mk (KeepBut.trans zk (KeepBut.of_grown hg g) (Kd.R_base2 HO_3.out)); have n4_ := Aside0.mk (ho); clear HI0; clear BK210; clear HB; clear HK; clear HO_3; have HI0 := n0_; have BK210 := n1_; have HB := n2_; have HK := n3_; have HO217 := n4_; clear n0_ n1_ n2_ n3_ n4_; clear ho hb hg hat))
          go_roundg kj10
          case measure => have := HK1.out; have := HJ5.out; have := HJ10.out; omega
          case rel => exact ⟨(y215), (wrap64 (x5_1 + 1)), (t212), (t213), (t214), zr, H', ⟨by have := HK1.out; have := HJ5.out; have := HJ10.out; omega⟩, ⟨by (with_reducible repeat (first | apply Kd.R_alloc | apply Kd.R_drewN | apply Kd.R_drew)); exact Kd.R_mono HO217.out (fun _ hk => trivial)⟩, ⟨zi6⟩, ⟨zk⟩, ⟨zb⟩⟩
         ·rw [if_neg c19] at H
          exact absurd H (by simp)
        ·rw [if_neg c17] at H
         have c17b0 : (t199 == 1) = false := beq_eq_false_iff_ne.mpr c17
         have c17b1 : (t199 != 1) = true := bne_iff_ne.mpr c17
         rw [c17b0] at H
         replace H := Option.bind_eq_some_iff.mp H
         obtain ⟨⟨t218, t219, t220, t221⟩, A270, H⟩ := H
         replace H : (if x3_1.length < 3518437208883 then (dioramaref24_getSets.l0 kj10 (x3_1 ++ [(⟨false, t206, t218, (⟨#[]⟩ : ByteArray)⟩ : S127)]) t195 (wrap64 (x5_1 + 1)) t219 t220 t221) else (none)) = some (r1, r2, r3, r4) := H
         have A27 := Aside0.mk A270
         clear A270
         by_cases c28 : x3_1.length < 3518437208883
         ·rw [if_pos c28] at H
          have LMc28 := Aside0.mk c28
          clear c28
          obtain ⟨y222, hy222⟩ : ∃ y_ : List (S127), y_ = (x3_1 ++ [(⟨false, t206, t218, (⟨#[]⟩ : ByteArray)⟩ : S127)]) := ⟨_, rfl⟩
          replace H : (dioramaref24_getSets.l0 kj10 y222 t195 (wrap64 (x5_1 + 1)) t219 t220 t221) = some (r1, r2, r3, r4) := by first | (rw [hy222]; with_reducible exact H) | (have H2_ := (Option.bind_some _ _).symm.trans H; rw [hy222]; with_reducible exact H2_) | (have H2_ := (Option.bind_some _ _).symm.trans H; with_reducible exact H2_) | with_reducible exact H | (rw [hy222]; exact H) | exact H
          have Ny222 := Aside0.mk hy222
          clear hy222
          have H' := Aside0.mk H
          clear H
          go_wp2_with (first | ((with_reducible refine gate_callee (f := 67) rfl ?_); refine goesL_ (some 32) rfl rfl Try.func67 (by kernel_rfl) rfl #[.pointer (some ⟨g, 0, none⟩), .int .u64 16777216] rfl zm ?_; (with_reducible refine (dioramaref02_Cursor_Uint.calls kj10 g x1000_10 x1001_10 x1002_10 16777216 t206 t207 t208 t209 w0 _ ?side1 ?side2 A16.out).mono ?_); (case side1 => exact zi6); (case side2 => exact zb); rintro e w29 ⟨rfl, hi, hb, hk⟩; refine ⟨_, rfl, ?_⟩; have n0_ := Aside0.mk (Kd.R_mono (Kd.R_keep (IsS116.apart (show IsS116 w0 _ g x1000_10 x1001_10 x1002_10 from zi6) (by (with_reducible repeat (first | apply Kd.R_alloc | apply Kd.R_drewN | apply Kd.R_drew)); exact HO_3.out) (by decide)) hk (fun _ h => h.2)) (fun _ h => h.1)); have n1_ := Aside0.mk (KeepBut.trans zk hk (.inl rfl)); have n2_ := Aside0.mk (hb); have n3_ := Aside0.mk (hi); clear HO_3; clear HK; clear HB; clear HI0; have HO_3 := n0_; have HK := n1_; have HB := n2_; have HI0 := n3_; clear n0_ n1_ n2_ n3_; (try clear hb); (try clear hb2); (try clear hk); (try clear hi)) | ((with_reducible refine gate_dst (N := 7) rfl ?_); refine box_event ?hg (N := 7) ?hd (cs := #[.bool false, .int .i64 0, .int .i64 0, .string (⟨#[]⟩ : ByteArray)]) (t := 127) ?hr ?_; (case hd => rfl); (case hg => rfl); (case hr => first | (go_simp; done) | (go_simp; rfl)); intro gb210 hg w30 hbox hb; have n0_ := Aside0.mk (Kd.R_below (Kd.R_elderB (by (with_reducible repeat (first | apply Kd.R_alloc | apply Kd.R_drewN | apply Kd.R_drew)); exact HO_3.out) gb210 (Nat.le_of_eq hg.symm)) hb); have n1_ := Aside0.mk (IsS116.below zi6 hb); have n2_ := Aside0.mk (KeepBut.trans zk (KeepBut.of_below hb g none) (.inl rfl)); have n3_ := Aside0.mk (below_step zb hb); have n4_ := Aside0.mk (hbox); have n5_ := Aside0.mk ((by rw [hg]; exact (keep_size (w := w) (g := g) (row := none) zk) : w.heap.size ≤ gb210)); have n6_ := Aside0.mk ((Nat.le_trans HW0.out (by rw [hg]; exact (keep_size (w := w) (g := g) (row := none) zk) : w.heap.size ≤ gb210) : w0.heap.size ≤ gb210)); have n7_ := Aside0.mk ((by rw [hg]; exact Nat.ne_of_lt (IsS116.lt (show IsS116 w0 _ g t207 t208 t209 from zi6)) : g ≠ gb210)); have n8_ := Aside0.mk ((by rw [hg]; exact Nat.ne_of_gt (IsS116.lt (show IsS116 w0 _ g t207 t208 t209 from zi6)) : gb210 ≠ g)); clear HO_3; clear HI0; clear HK; clear HB; have HO_3 := n0_; have HI0 := n1_; have HK := n2_; have HB := n3_; have BK210 := n4_; have GW210 := n5_; have GE210 := n6_; have NB0_210 := n7_; have NB210_0 := n8_; clear n0_ n1_ n2_ n3_ n4_ n5_ n6_ n7_ n8_; clear hb hbox hg; have hnb31 := NB210_0.out; have hnc31 := NB0_210.out; have hcz32_0 : w30.cell? ⟨gb210, 0, none⟩ = some (.bool false) := (blk_cell BK210.out 0).trans rfl; have hcz32_1 : w30.cell? ⟨gb210, 1, none⟩ = some (.int .i64 0) := (blk_cell BK210.out 1).trans rfl; have hcz32_2 : w30.cell? ⟨gb210, 2, none⟩ = some (.int .i64 0) := (blk_cell BK210.out 2).trans rfl; have hcz32_3 : w30.cell? ⟨gb210, 3, none⟩ = some (.string (⟨#[]⟩ : ByteArray)) := (blk_cell BK210.out 3).trans rfl; have hfz32_0 := blk_frozen BK210.out 0; have hfz32_1 := blk_frozen BK210.out 1; have hfz32_2 := blk_frozen BK210.out 2; have hfz32_3 := blk_frozen BK210.out 3) | ((with_reducible refine gate_callee (f := 108) rfl ?_); refine goesL_ (some 40) rfl rfl Try.func108 (by kernel_rfl) rfl #[.pointer (some ⟨g, 0, none⟩)] rfl zm ?_; (with_reducible refine (dioramaref02_Cursor_Int.calls kj10 g t207 t208 t209 t218 t219 t220 t221 w0 _ ?side1 ?side2 A27.out).mono ?_); (case side1 => exact zi6); (case side2 => exact zb); rintro e w33 ⟨rfl, hi, hb, hk⟩; refine ⟨_, rfl, ?_⟩; have n0_ := Aside0.mk (Kd.R_mono (Kd.R_keep (IsS116.apart (show IsS116 w0 _ g t207 t208 t209 from zi6) (by (with_reducible repeat (first | apply Kd.R_alloc | apply Kd.R_drewN | apply Kd.R_drew)); exact (Kd.R_mono (Kd.R_far (p := ⟨gb210, 3, none⟩) (Kd.R_far (p := ⟨gb210, 2, none⟩) (Kd.R_far (p := ⟨gb210, 1, none⟩) (Kd.R_far (p := ⟨gb210, 0, none⟩) (Kd.R_mono HO_3.out (fun k_ hk => (⟨hk, hk.2⟩ : _ ∧ k_ ≠ gb210))) (fun _ hk => hk.2) (.bool false)) (fun _ hk => hk.2) (.int .i64 t206)) (fun _ hk => hk.2) (.int .i64 0)) (fun _ hk => hk.2) (.string (⟨#[]⟩ : ByteArray))) (fun _ h_ => h_.1))) (by decide)) hk (fun _ h => h.2)) (fun _ h => h.1)); have n1_ := Aside0.mk (KeepBut.blk hk (g' := gb210) (o := .cells #[.bool false, .int .i64 t206, .int .i64 0, .string (⟨#[]⟩ : ByteArray)] 127 (0, 0)) (by (with_reducible repeat (first | refine blk_drewN ?_ _ | refine blk_drew ?_ | refine blk_alloc ?_ _)); refine blk_put (cs := #[.bool false, .int .i64 t206, .int .i64 0, .string (⟨#[]⟩ : ByteArray)]) ?_ 3 _ rfl; (with_reducible repeat (first | refine blk_drewN ?_ _ | refine blk_drew ?_ | refine blk_alloc ?_ _)); refine blk_put (cs := #[.bool false, .int .i64 t206, .int .i64 0, .string (⟨#[]⟩ : ByteArray)]) ?_ 2 _ rfl; (with_reducible repeat (first | refine blk_drewN ?_ _ | refine blk_drew ?_ | refine blk_alloc ?_ _)); refine blk_put (cs := #[.bool false, .int .i64 0, .int .i64 0, .string (⟨#[]⟩ : ByteArray)]) ?_ 1 _ rfl; (with_reducible repeat (first | refine blk_drewN ?_ _ | refine blk_drew ?_ | refine blk_alloc ?_ _)); refine blk_put (cs := #[.bool false, .int .i64 0, .int .i64 0, .string (⟨#[]⟩ : ByteArray)]) ?_ 0 _ rfl; (with_reducible repeat (first | refine blk_drewN ?_ _ | refine blk_drew ?_ | refine blk_alloc ?_ _)); exact BK210.out) NB210_0.out (by simp)); have n2_ := Aside0.mk (KeepBut.trans zk hk (.inl rfl)); have n3_ := Aside0.mk (hb); have n4_ := Aside0.mk (hi); clear HO_3; clear BK210; clear HK; clear HB; clear HI0; have HO_3 := n0_; have BK210 := n1_; have HK := n2_; have HB := n3_; have HI0 := n4_; clear n0_ n1_ n2_ n3_ n4_; (try clear hb); (try clear hb2); (try clear hk); (try clear hi); have hcz34_0 : w33.cell? ⟨gb210, 0, none⟩ = some (.bool false) := (blk_cell BK210.out 0).trans rfl; have hcz34_1 : w33.cell? ⟨gb210, 1, none⟩ = some (.int .i64 t206) := (blk_cell BK210.out 1).trans rfl; have hcz34_2 : w33.cell? ⟨gb210, 2, none⟩ = some (.int .i64 0) := (blk_cell BK210.out 2).trans rfl; have hcz34_3 : w33.cell? ⟨gb210, 3, none⟩ = some (.string (⟨#[]⟩ : ByteArray)) := (blk_cell BK210.out 3).trans rfl; have hfz34_0 := blk_frozen BK210.out 0; have hfz34_1 := blk_frozen BK210.out 1; have hfz34_2 := blk_frozen BK210.out 2; have hfz34_3 := blk_frozen BK210.out 3) | ((with_reducible refine gate_builtin (b := .append) (xs := #[.tmp 42, .tmp 44]) rfl ?_); at_builtin; refine Kd.R_append k127 w.heap.size rfl (.tmp 42) (.tmp 44) 99 127 (.agg #[(.bool false), (.int .i64 0), (.int .i64 0), (.string ⟨#[]⟩)]) 40 rfl Try.underlying99 info127 rfl (by decide) (by omega) u3 x3_1 (⟨false, t206, t218, (⟨#[]⟩ : ByteArray)⟩ : S127) [.bool false, .int .i64 t206, .int .i64 t218, .string (⟨#[]⟩ : ByteArray)] (fun k_ => k_ ≠ gb210) (fun _ => False) rfl (by first | (go_simp; done) | (go_simp; rfl)) ?aP (fun _ hk => hk.elim) ?aF ?aO (Below.refl _ _) ?aS ?aL ?_; (case aP => exact k127_mkM _ _ _ (⟨false, t206, t218, (⟨#[]⟩ : ByteArray)⟩ : S127)); (case aF => exact (fun k_ hk => Kd.freshB (g := gb210) (o := .cells #[.bool false, .int .i64 t206, .int .i64 t218, .string (⟨#[]⟩ : ByteArray)] 127 (0, 0)) (by (with_reducible repeat (first | refine blk_drewN ?_ _ | refine blk_drew ?_ | refine blk_alloc ?_ _)); refine blk_put (cs := #[.bool false, .int .i64 t206, .int .i64 0, .string (⟨#[]⟩ : ByteArray)]) ?_ 2 _ rfl; (with_reducible repeat (first | refine blk_drewN ?_ _ | refine blk_drew ?_ | refine blk_alloc ?_ _)); exact BK210.out) k_ hk)); (case aO => exact (by (with_reducible repeat (first | apply Kd.R_alloc | apply Kd.R_drewN | apply Kd.R_drew)); exact Kd.R_mono (Kd.R_far (p := ⟨gb210, 2, none⟩) (Kd.R_mono HO_3.out (fun k_ hk => (⟨hk, hk.2⟩ : _ ∧ k_ ≠ gb210))) (fun _ hk => hk.2) (.int .i64 t218)) (fun _ hk => hk.1.2))); (case aS => exact (keep_size (w := w) (g := g) (row := none) zk)); (case aL => have := LMc28.out; omega); intro v223 w35 ho hb hg hat; rw [← Ny222.out] at ho; have n0_ := Aside0.mk (IsS116.grown (show IsS116 w0 _ g t219 t220 t221 from zi6) hg (IsS116.own_ne HI0.out HO_3.out (by decide))); have n1_ := Aside0.mk (blk_grown (g := gb210) (o := .cells #[.bool false, .int .i64 t206, .int .i64 t218, .string (⟨#[]⟩ : ByteArray)] 127 (0, 0)) (by (with_reducible repeat (first | refine blk_drewN ?_ _ | refine blk_drew ?_ | refine blk_alloc ?_ _)); refine blk_put (cs := #[.bool false, .int .i64 t206, .int .i64 0, .string (⟨#[]⟩ : ByteArray)]) ?_ 2 _ rfl; (with_reducible repeat (first | refine blk_drewN ?_ _ | refine blk_drew ?_ | refine blk_alloc ?_ _)); exact BK210.out) hg (Kd.R_away HO_3.out (fun _ hk => hk.2))); have n2_ := Aside0.mk (below_weaken zb HL.out hb); have n3_ := Aside0.mk (KeepBut.trans zk (KeepBut.of_grown hg g) (Kd.R_base2 HO_3.out)); have n4_ := Aside0.mk (ho); clear HI0; clear BK210; clear HB; clear HK; clear HO_3; have HI0 := n0_; have BK210 := n1_; have HB := n2_; have HK := n3_; have HO224 := n4_; clear n0_ n1_ n2_ n3_ n4_; clear ho hb hg hat))
          go_roundg kj10
          case measure => have := HK1.out; have := HJ5.out; have := HJ10.out; omega
          case rel => exact ⟨(y222), (wrap64 (x5_1 + 1)), (t219), (t220), (t221), zr, H', ⟨by have := HK1.out; have := HJ5.out; have := HJ10.out; omega⟩, ⟨by (with_reducible repeat (first | apply Kd.R_alloc | apply Kd.R_drewN | apply Kd.R_drew)); exact Kd.R_mono HO224.out (fun _ hk => trivial)⟩, ⟨zi6⟩, ⟨zk⟩, ⟨zb⟩⟩
         ·rw [if_neg c28] at H
          exact absurd H (by simp)
     ·replace c9 := Bool.eq_false_iff.mpr c9
      subst c9
      have H1 : (some (x3_1, x1000_1, x1001_1, x1002_1)) = some (r1, r2, r3, r4) := by rw [if_neg (show ¬ (false = true) by decide)] at H; exact H
      clear H
      have H := H1
      clear H1
      simp only [Option.some.injEq, Prod.mk.injEq] at H
      obtain ⟨rfl, rfl, rfl, rfl⟩ := H
      go_wp2
      go_ret
      exact ⟨_, by first | rfl | (simp [errW_none, errW_some] <;> rfl) | (simp [*, errW_none, errW_some] <;> rfl), by (with_reducible repeat (first | apply Kd.R_alloc | apply Kd.R_drewN | apply Kd.R_drew)); exact HO_3.out, zi6, zb, zk⟩
end Go.Proofs.Ytdjpelcdijpihaa.PrintF
