/- A part of the proof of the claim: what it uses of the text PrintG4 (printed by xprint.py). -/
import Derived.Test.YtdjpelcdijpihaaVZ
import Derived.Test.YtdjpelcdijpihaaShort
import Derived.Test.YtdjpelcdijpihaaVPrintF0
import Derived.Test.YtdjpelcdijpihaaVPrintG1
import Derived.Test.YtdjpelcdijpihaaVPrintG2
namespace Go.Proofs.Ytdjpelcdijpihaa.PrintF
open Go.Proofs.Ytdjpelcdijpihaa.Print
open Go.RowKit Go.Proofs.YtdjpelcdijpihaaW.PrintWords Go.Proofs.YtdjpelcdijpihaaW.PrintLast Go.Proofs.YtdjpelcdijpihaaW.PrintMore
attribute [local go_sem] max2_int min2_int max_two min_two
set_option linter.unusedVariables false
set_option linter.unusedSimpArgs false
mutual
def dioramaref24_getEdits.l0 : Nat → List (S138) → Int → Int → ByteArray → Int → Int → Option ((List (S138)) × ByteArray × Int × Int)
 | 0, _, _, _, _, _, _ => none
 | k + 1, x3, x4, x5, x1000, x1001, x1002 => if x5 < x4 then (dioramaref24_getEdits.j1 k x3 x4 x5 (x1002 == 0) x1000 x1001 x1002) else (dioramaref24_getEdits.j1 k x3 x4 x5 false x1000 x1001 x1002)
def dioramaref24_getEdits.j1 : Nat → List (S138) → Int → Int → Bool → ByteArray → Int → Int → Option ((List (S138)) × ByteArray × Int × Int)
 | 0, _, _, _, _, _, _, _ => none
 | k + 1, x3, x4, x5, x19, x1000, x1001, x1002 => if x19 = true then ((dioramaref02_Cursor_Uint.f k x1000 x1001 x1002 16777216).bind fun bt232 => (if bt232.1 < 1 then (dioramaref24_getEdits.j2 k x3 x4 x5 bt232.1 true bt232.2.1 bt232.2.2.1 bt232.2.2.2) else (dioramaref24_getEdits.j2 k x3 x4 x5 bt232.1 (decide (bt232.1 > 3)) bt232.2.1 bt232.2.2.1 bt232.2.2.2))) else (some (x3, x1000, x1001, x1002))
def dioramaref24_getEdits.j2 : Nat → List (S138) → Int → Int → Int → Bool → ByteArray → Int → Int → Option ((List (S138)) × ByteArray × Int × Int)
 | 0, _, _, _, _, _, _, _, _ => none
 | k + 1, x3, x4, x5, x6, x29, x1000, x1001, x1002 => if x29 = true then ((dioramaref02_Cursor_Fail.f x1000 x1001 x1002 21).bind fun bt236 => ((dioramaref02_Cursor_Uint.f k bt236.1 bt236.2.1 bt236.2.2 16777216).bind fun bt239 => (if x3.length < 8796093022208 then (dioramaref24_getEdits.l0 k (x3 ++ [(⟨x6, bt239.1⟩ : S138)]) x4 (wrap64 (x5 + 1)) bt239.2.1 bt239.2.2.1 bt239.2.2.2) else (none)))) else ((dioramaref02_Cursor_Uint.f k x1000 x1001 x1002 16777216).bind fun bt246 => (if x3.length < 8796093022208 then (dioramaref24_getEdits.l0 k (x3 ++ [(⟨x6, bt246.1⟩ : S138)]) x4 (wrap64 (x5 + 1)) bt246.2.1 bt246.2.2.1 bt246.2.2.2) else (none)))
end
def dioramaref24_getEdits.f (k : Nat) (s0_0 : ByteArray) (s0_1 : Int) (s0_2 : Int) : Option ((List (S138)) × ByteArray × Int × Int) := (dioramaref02_Cursor_Uint.f k s0_0 s0_1 s0_2 16777216).bind fun bt228 => (dioramaref24_getEdits.l0 k (([] : List (S138))) bt228.1 0 bt228.2.1 bt228.2.2.1 bt228.2.2.2)
set_option maxHeartbeats 8000000 in
set_option maxRecDepth 100000 in
theorem dioramaref24_getEdits.calls (k : Nat) (g : Nat) (s0_0 : ByteArray) (s0_1 : Int) (s0_2 : Int) (r1 : List (S138)) (r2 : ByteArray) (r3 : Int) (r4 : Int) (w0 w : World) (hI : IsS116 w0 w g s0_0 s0_1 s0_2) (hB : Below w0.heap.size w0 w) (h : dioramaref24_getEdits.f k s0_0 s0_1 s0_2 = some (r1, r2, r3, r4)) :
  Calls Try.prog 93 #[.pointer (some ⟨g, 0, none⟩)] w fun e w' => ∃ v0_ : Value, e = .returned (v0_) ∧ Kd.R k138 138 w' w.heap.size (fun _ => True) v0_ r1 ∧ IsS116 w0 w' g r2 r3 r4 ∧ Below w0.heap.size w0 w' ∧ KeepBut w w' g none := by
 have hu138 := Try.underlying138
 have HI0 := Aside0.mk hI
 have HK := Aside0.mk (KeepBut.refl w g none)
 have HL := Aside0.mk hB.size
 clear hI
 have HW0 := Aside0.mk hB.size
 have HB := Aside0.mk hB
 clear hB
 have H : ((dioramaref02_Cursor_Uint.f k s0_0 s0_1 s0_2 16777216).bind fun bt228 => (dioramaref24_getEdits.l0 k (([] : List (S138))) bt228.1 0 bt228.2.1 bt228.2.2.1 bt228.2.2.2)) = some (r1, r2, r3, r4) := h
 clear h
 obtain ⟨y225, hy225⟩ : ∃ y_ : List (S138), y_ = (([] : List (S138))) := ⟨_, rfl⟩
 replace H : ((dioramaref02_Cursor_Uint.f k s0_0 s0_1 s0_2 16777216).bind fun bt228 => (dioramaref24_getEdits.l0 k y225 bt228.1 0 bt228.2.1 bt228.2.2.1 bt228.2.2.2)) = some (r1, r2, r3, r4) := by first | (rw [hy225]; with_reducible exact H) | (have H2_ := (Option.bind_some _ _).symm.trans H; rw [hy225]; with_reducible exact H2_) | (have H2_ := (Option.bind_some _ _).symm.trans H; with_reducible exact H2_) | with_reducible exact H | (rw [hy225]; exact H) | exact H
 have Ny225 := Aside0.mk hy225
 clear hy225
 replace H := Option.bind_eq_some_iff.mp H
 obtain ⟨⟨t228, t229, t230, t231⟩, A20, H⟩ := H
 replace H : (dioramaref24_getEdits.l0 k y225 t228 0 t229 t230 t231) = some (r1, r2, r3, r4) := H
 have A2 := Aside0.mk A20
 clear A20
 have H' := Aside0.mk H
 clear H
 go_enter Try.func93, Try.ntmps93
 go_wp2_with (first | ((with_reducible refine gate_dst (N := 7) rfl ?_); refine Kd.R_lit k138 _ 138 ?hg (N := 7) ?hd (xs := ([] : List (S138))) (inner := []) (ok := fun _ => True) (okp := fun _ => True) ?hr ?hp (fun _ hk => hk) trivial (Below.refl _ _) (Nat.le_refl _) (by simp) ?_; (case hd => rfl); (case hg => rfl); (case hr => first | (go_simp; done) | (go_simp; rfl)); (case hp => exact (Reps.none _ _)); intro v226 w3 ho4 hb hg_ hnew_; clear hg_ hnew_; (first | rw [← Ny225.out] at ho4 | (simp only [Int.reduceToNat] at ho4; rw [← Ny225.out] at ho4)); have n0_ := Aside0.mk (Kd.R_lower ho4 (keep_size (w := w) (g := g) (row := none) zk)); have n1_ := Aside0.mk (IsS116.below zi6 hb); have n2_ := Aside0.mk (KeepBut.trans zk (KeepBut.of_below hb g none) (.inl rfl)); have n3_ := Aside0.mk (below_step zb hb); clear HI0; clear HK; clear HB; have HO227 := n0_; have HI0 := n1_; have HK := n2_; have HB := n3_; clear n0_ n1_ n2_ n3_; clear hb ho4) | ((with_reducible refine gate_callee (f := 67) rfl ?_); refine goesL_ (some 9) rfl rfl Try.func67 (by kernel_rfl) rfl #[.pointer (some ⟨g, 0, none⟩), .int .u64 16777216] rfl zm ?_; (with_reducible refine (dioramaref02_Cursor_Uint.calls k g s0_0 s0_1 s0_2 16777216 t228 t229 t230 t231 w0 _ ?side1 ?side2 A2.out).mono ?_); (case side1 => exact zi6); (case side2 => exact zb); rintro e w5 ⟨rfl, hi, hb, hk⟩; refine ⟨_, rfl, ?_⟩; have n0_ := Aside0.mk (Kd.R_mono (Kd.R_keep (IsS116.apart (show IsS116 w0 _ g s0_0 s0_1 s0_2 from zi6) (by (with_reducible repeat (first | apply Kd.R_alloc | apply Kd.R_drewN | apply Kd.R_drew)); exact HO227.out) (by decide)) hk (fun _ h => h.2)) (fun _ h => h.1)); have n1_ := Aside0.mk (KeepBut.trans zk hk (.inl rfl)); have n2_ := Aside0.mk (hb); have n3_ := Aside0.mk (hi); clear HO227; clear HK; clear HB; clear HI0; have HO227 := n0_; have HK := n1_; have HB := n2_; have HI0 := n3_; clear n0_ n1_ n2_ n3_; (try clear hb); (try clear hb2); (try clear hk); (try clear hi)))
 go_loopg [3, 5] k (fun kq v3 v5 w' => ∃ (x3_1 : List (S138)) (x5_1 : Int) (x1000_1 : ByteArray) (x1001_1 : Int) (x1002_1 : Int), v5 = .int .i64 x5_1 ∧ Aside0 (dioramaref24_getEdits.l0 kq x3_1 t228 x5_1 x1000_1 x1001_1 x1002_1 = some (r1, r2, r3, r4)) ∧ Aside0 (kq ≤ k) ∧ Aside0 (Kd.R k138 138 w' w.heap.size (fun _ => True) v3 x3_1) ∧ Aside0 (IsS116 w0 w' g x1000_1 x1001_1 x1002_1) ∧ Aside0 (KeepBut w w' g none) ∧ Aside0 (Below w0.heap.size w0 w'))
 case atStart => exact ⟨(y225), (0), (t229), (t230), (t231), zr, H', ⟨Nat.le_refl _⟩, ⟨by (with_reducible repeat (first | apply Kd.R_alloc | apply Kd.R_drewN | apply Kd.R_drew)); exact HO227.out⟩, ⟨zi6⟩, ⟨zk⟩, ⟨zb⟩⟩
 case round =>
  clear H'
  try clear p2
  obtain ⟨x3_1, x5_1, x1000_1, x1001_1, x1002_1, rfl, HA, HK1, HO_3, HI0, HK, HB⟩ := hrel
  cases gk with
  | zero => exact absurd HA.out (by simp [dioramaref24_getEdits.l0])
  | succ k1 =>
   have H := HA.out
   clear HA
   simp only [dioramaref24_getEdits.l0] at H
   have HC6 := Aside0.mk H
   clear H
   go_upto_region 4 with (fail)
   go_cut [19] (fun v19 wc => ∃ (kq : Nat) (x19_5 : Bool), v19 = .bool x19_5 ∧ Aside0 (dioramaref24_getEdits.j1 kq x3_1 t228 x5_1 x19_5 x1000_1 x1001_1 x1002_1 = some (r1, r2, r3, r4)) ∧ Aside0 (kq ≤ k1) ∧ Aside0 (Kd.R k138 138 wc w.heap.size (fun _ => True) u3 x3_1) ∧ Aside0 (IsS116 w0 wc g x1000_1 x1001_1 x1002_1) ∧ Aside0 (KeepBut w wc g none) ∧ Aside0 (Below w0.heap.size w0 wc))
   case first =>
    have H := HC6.out
    clear HC6
    by_cases c7 : x5_1 < t228
    ·rw [if_pos c7] at H
     have c7b0 : decide (x5_1 < t228) = true := decide_eq_true c7
     clear c7
     (first | rw [c7b0] | (simp only [i64_w]; rw [c7b0]) | skip)
     have H' := Aside0.mk H
     clear H
     obtain ⟨HGz8, hgz8⟩ := HI0.out
     have hcz8_0 := cellS116_0 HGz8
     have hcz8_1 := cellS116_1 HGz8
     have hcz8_2 := cellS116_2 HGz8
     have hfz8_0 := blk_frozen HGz8 0
     have hfz8_1 := blk_frozen HGz8 1
     have hfz8_2 := blk_frozen HGz8 2
     clear HGz8 hgz8
     go_wp2
     go_meet
     case rel => exact ⟨_, ((x1002_1 == 0)), zr, H', ⟨by have := HK1.out; first | omega | exact Nat.le_refl _⟩, ⟨by (with_reducible repeat (first | apply Kd.R_alloc | apply Kd.R_drewN | apply Kd.R_drew)); exact HO_3.out⟩, ⟨zi6⟩, ⟨zk⟩, ⟨zb⟩⟩
    ·rw [if_neg c7] at H
     have c7b0 : decide (x5_1 < t228) = false := decide_eq_false c7
     clear c7
     (first | rw [c7b0] | (simp only [i64_w]; rw [c7b0]) | skip)
     have H' := Aside0.mk H
     clear H
     go_wp2
     go_meet
     case rel => exact ⟨_, (false), zr, H', ⟨by have := HK1.out; first | omega | exact Nat.le_refl _⟩, ⟨by (with_reducible repeat (first | apply Kd.R_alloc | apply Kd.R_drewN | apply Kd.R_drew)); exact HO_3.out⟩, ⟨zi6⟩, ⟨zk⟩, ⟨zb⟩⟩
   case rest =>
    clear HC6
    try clear p2
    try clear c6
    try clear c7
    try clear c7b0
    try clear hcz8_0
    try clear hcz8_1
    try clear hcz8_2
    try clear hfz8_0
    try clear hfz8_1
    try clear hfz8_2
    try clear p2
    obtain ⟨kq, x19_5, rfl, HA, HJ5, HO_3, HI0, HK, HB⟩ := hcut
    cases kq with
    | zero => exact absurd HA.out (by simp [dioramaref24_getEdits.j1])
    | succ kj5 =>
     have H := HA.out
     clear HA
     simp only [dioramaref24_getEdits.j1] at H
     by_cases c9 : x19_5 = true
     ·subst c9
      have H1 : ((dioramaref02_Cursor_Uint.f kj5 x1000_1 x1001_1 x1002_1 16777216).bind fun bt232 => (if bt232.1 < 1 then (dioramaref24_getEdits.j2 kj5 x3_1 t228 x5_1 bt232.1 true bt232.2.1 bt232.2.2.1 bt232.2.2.2) else (dioramaref24_getEdits.j2 kj5 x3_1 t228 x5_1 bt232.1 (decide (bt232.1 > 3)) bt232.2.1 bt232.2.2.1 bt232.2.2.2))) = some (r1, r2, r3, r4) := by rw [if_pos rfl] at H; exact H
      clear H
      have H := H1
      clear H1
      replace H := Option.bind_eq_some_iff.mp H
      obtain ⟨⟨t232, t233, t234, t235⟩, A100, H⟩ := H
      replace H : (if t232 < 1 then (dioramaref24_getEdits.j2 kj5 x3_1 t228 x5_1 t232 true t233 t234 t235) else (dioramaref24_getEdits.j2 kj5 x3_1 t228 x5_1 t232 (decide (t232 > 3)) t233 t234 t235)) = some (r1, r2, r3, r4) := H
      have A10 := Aside0.mk A100
      clear A100
      have HC11 := Aside0.mk H
      clear H
      go_upto_region 7 with (first | ((with_reducible refine gate_callee (f := 67) rfl ?_); refine goesL_ (some 23) rfl rfl Try.func67 (by kernel_rfl) rfl #[.pointer (some ⟨g, 0, none⟩), .int .u64 16777216] rfl zm ?_; (with_reducible refine (dioramaref02_Cursor_Uint.calls kj5 g x1000_1 x1001_1 x1002_1 16777216 t232 t233 t234 t235 w0 _ ?side1 ?side2 A10.out).mono ?_); (case side1 => exact zi6); (case side2 => exact zb); rintro e w12 ⟨rfl, hi, hb, hk⟩; refine ⟨_, rfl, ?_⟩; have n0_ := Aside0.mk (Kd.R_mono (Kd.R_keep (IsS116.apart (show IsS116 w0 _ g x1000_1 x1001_1 x1002_1 from zi6) (by (with_reducible repeat (first | apply Kd.R_alloc | apply Kd.R_drewN | apply Kd.R_drew)); exact HO_3.out) (by decide)) hk (fun _ h => h.2)) (fun _ h => h.1)); have n1_ := Aside0.mk (KeepBut.trans zk hk (.inl rfl)); have n2_ := Aside0.mk (hb); have n3_ := Aside0.mk (hi); clear HO_3; clear HK; clear HB; clear HI0; have HO_3 := n0_; have HK := n1_; have HB := n2_; have HI0 := n3_; clear n0_ n1_ n2_ n3_; (try clear hb); (try clear hb2); (try clear hk); (try clear hi)))
      (try simp only [Act.put, zq1, zq2, zq3])
      go_cut [29] (fun v29 wc => ∃ (kq : Nat) (x29_10 : Bool), v29 = .bool x29_10 ∧ Aside0 (dioramaref24_getEdits.j2 kq x3_1 t228 x5_1 t232 x29_10 t233 t234 t235 = some (r1, r2, r3, r4)) ∧ Aside0 (kq ≤ kj5) ∧ Aside0 (Kd.R k138 138 wc w.heap.size (fun _ => True) u3 x3_1) ∧ Aside0 (IsS116 w0 wc g t233 t234 t235) ∧ Aside0 (KeepBut w wc g none) ∧ Aside0 (Below w0.heap.size w0 wc))
      case first =>
       have H := HC11.out
       clear HC11
       by_cases c13 : t232 < 1
       ·rw [if_pos c13] at H
        have c13b0 : decide (t232 < 1) = true := decide_eq_true c13
        clear c13
        (first | rw [c13b0] | (simp only [i64_w]; rw [c13b0]) | skip)
        have H' := Aside0.mk H
        clear H
        go_wp2
        go_meet
        case rel => exact ⟨_, (true), zr, H', ⟨by have := HK1.out; have := HJ5.out; first | omega | exact Nat.le_refl _⟩, ⟨by (with_reducible repeat (first | apply Kd.R_alloc | apply Kd.R_drewN | apply Kd.R_drew)); exact HO_3.out⟩, ⟨zi6⟩, ⟨zk⟩, ⟨zb⟩⟩
       ·rw [if_neg c13] at H
        have c13b0 : decide (t232 < 1) = false := decide_eq_false c13
        clear c13
        (first | rw [c13b0] | (simp only [i64_w]; rw [c13b0]) | skip)
        have H' := Aside0.mk H
        clear H
        go_wp2
        go_meet
        case rel => exact ⟨_, (decide (t232 > 3)), zr, H', ⟨by have := HK1.out; have := HJ5.out; first | omega | exact Nat.le_refl _⟩, ⟨by (with_reducible repeat (first | apply Kd.R_alloc | apply Kd.R_drewN | apply Kd.R_drew)); exact HO_3.out⟩, ⟨zi6⟩, ⟨zk⟩, ⟨zb⟩⟩
      case rest =>
       clear HC11
       try clear c1
       try clear p2
       try clear c6
       try clear c7
       try clear c7b0
       try clear c9
       try clear c13
       try clear c13b0
       try clear hcz8_0
       try clear hcz8_1
       try clear hcz8_2
       try clear hfz8_0
       try clear hfz8_1
       try clear hfz8_2
       try clear p2
       obtain ⟨kq, x29_10, rfl, HA, HJ10, HO_3, HI0, HK, HB⟩ := hcut
       cases kq with
       | zero => exact absurd HA.out (by simp [dioramaref24_getEdits.j2])
       | succ kj10 =>
        have H := HA.out
        clear HA
        simp only [dioramaref24_getEdits.j2] at H
        by_cases c14 : x29_10 = true
        ·subst c14
         have H1 : ((dioramaref02_Cursor_Fail.f t233 t234 t235 21).bind fun bt236 => ((dioramaref02_Cursor_Uint.f kj10 bt236.1 bt236.2.1 bt236.2.2 16777216).bind fun bt239 => (if x3_1.length < 8796093022208 then (dioramaref24_getEdits.l0 kj10 (x3_1 ++ [(⟨t232, bt239.1⟩ : S138)]) t228 (wrap64 (x5_1 + 1)) bt239.2.1 bt239.2.2.1 bt239.2.2.2) else (none)))) = some (r1, r2, r3, r4) := by rw [if_pos rfl] at H; exact H
         clear H
         have H := H1
         clear H1
         replace H := Option.bind_eq_some_iff.mp H
         obtain ⟨⟨t236, t237, t238⟩, A150, H⟩ := H
         replace H : ((dioramaref02_Cursor_Uint.f kj10 t236 t237 t238 16777216).bind fun bt239 => (if x3_1.length < 8796093022208 then (dioramaref24_getEdits.l0 kj10 (x3_1 ++ [(⟨t232, bt239.1⟩ : S138)]) t228 (wrap64 (x5_1 + 1)) bt239.2.1 bt239.2.2.1 bt239.2.2.2) else (none))) = some (r1, r2, r3, r4) := H
         have A15 := Aside0.mk A150
         clear A150
         replace H := Option.bind_eq_some_iff.mp H
         obtain ⟨⟨t239, t240, t241, t242⟩, A160, H⟩ := H
         replace H : (if x3_1.length < 8796093022208 then (dioramaref24_getEdits.l0 kj10 (x3_1 ++ [(⟨t232, t239⟩ : S138)]) t228 (wrap64 (x5_1 + 1)) t240 t241 t242) else (none)) = some (r1, r2, r3, r4) := H
         have A16 := Aside0.mk A160
         clear A160
         by_cases c17 : x3_1.length < 8796093022208
         ·rw [if_pos c17] at H
          have LMc17 := Aside0.mk c17
          clear c17
          obtain ⟨y243, hy243⟩ : ∃ y_ : List (S138), y_ = (x3_1 ++ [(⟨t232, t239⟩ : S138)]) := ⟨_, rfl⟩
          replace H : (dioramaref24_getEdits.l0 kj10 y243 t228 (wrap64 (x5_1 + 1)) t240 t241 t242) = some (r1, r2, r3, r4) := by first | (rw [hy243]; with_reducible exact H) | (have H2_ := (Option.bind_some _ _).symm.trans H; rw [hy243]; with_reducible exact H2_) | (have H2_ := (Option.bind_some _ _).symm.trans H; with_reducible exact H2_) | with_reducible exact H | (rw [hy243]; exact H) | exact H
          have Ny243 := Aside0.mk hy243
          clear hy243
          have H' := Aside0.mk H
          clear H
          go_wp2_with (first | ((with_reducible refine gate_callee (f := 95) rfl ?_); refine goesL_ (some 31) rfl rfl Try.func95 (by kernel_rfl) rfl #[.pointer (some ⟨g, 0, none⟩), .int .i64 21] rfl zm ?_; (with_reducible refine (dioramaref02_Cursor_Fail.calls g t233 t234 t235 21 t236 t237 t238 w0 _ ?side1 ?side2 A15.out).mono ?_); (case side1 => exact zi6); (case side2 => exact zb); rintro e w18 ⟨rfl, hi, hb, hk⟩; refine ⟨_, rfl, ?_⟩; have n0_ := Aside0.mk (Kd.R_mono (Kd.R_keep (IsS116.apart (show IsS116 w0 _ g t233 t234 t235 from zi6) (by (with_reducible repeat (first | apply Kd.R_alloc | apply Kd.R_drewN | apply Kd.R_drew)); exact HO_3.out) (by decide)) hk (fun _ h => h.2)) (fun _ h => h.1)); have n1_ := Aside0.mk (KeepBut.trans zk hk (.inl rfl)); have n2_ := Aside0.mk (hb); have n3_ := Aside0.mk (hi); clear HO_3; clear HK; clear HB; clear HI0; have HO_3 := n0_; have HK := n1_; have HB := n2_; have HI0 := n3_; clear n0_ n1_ n2_ n3_; (try clear hb); (try clear hb2); (try clear hk); (try clear hi)) | ((with_reducible refine gate_callee (f := 67) rfl ?_); refine goesL_ (some 35) rfl rfl Try.func67 (by kernel_rfl) rfl #[.pointer (some ⟨g, 0, none⟩), .int .u64 16777216] rfl zm ?_; (with_reducible refine (dioramaref02_Cursor_Uint.calls kj10 g t236 t237 t238 16777216 t239 t240 t241 t242 w0 _ ?side1 ?side2 A16.out).mono ?_); (case side1 => exact zi6); (case side2 => exact zb); rintro e w19 ⟨rfl, hi, hb, hk⟩; refine ⟨_, rfl, ?_⟩; have n0_ := Aside0.mk (Kd.R_mono (Kd.R_keep (IsS116.apart (show IsS116 w0 _ g t236 t237 t238 from zi6) (by (with_reducible repeat (first | apply Kd.R_alloc | apply Kd.R_drewN | apply Kd.R_drew)); exact HO_3.out) (by decide)) hk (fun _ h => h.2)) (fun _ h => h.1)); have n1_ := Aside0.mk (KeepBut.trans zk hk (.inl rfl)); have n2_ := Aside0.mk (hb); have n3_ := Aside0.mk (hi); clear HO_3; clear HK; clear HB; clear HI0; have HO_3 := n0_; have HK := n1_; have HB := n2_; have HI0 := n3_; clear n0_ n1_ n2_ n3_; (try clear hb); (try clear hb2); (try clear hk); (try clear hi)) | ((with_reducible refine gate_builtin (b := .append) (xs := #[.tmp 32, .tmp 37]) rfl ?_); at_builtin; refine Kd.R_append k138 w.heap.size rfl (.tmp 32) (.tmp 37) 100 138 (.agg #[(.int .i64 0), (.int .i64 0)]) 16 rfl Try.underlying100 info138 rfl (by decide) (by omega) u3 x3_1 (⟨t232, t239⟩ : S138) [.int .i64 t232, .int .i64 t239] (fun _ => True) (fun _ => False) rfl rfl ?aP (fun _ hk => hk.elim) ?aF ?aO (Below.refl _ _) ?aS ?aL ?_; (case aP => exact k138_mkM _ _ _ (⟨t232, t239⟩ : S138)); (case aF => exact (fun _ _ => trivial)); (case aO => exact (by (with_reducible repeat (first | apply Kd.R_alloc | apply Kd.R_drewN | apply Kd.R_drew)); exact HO_3.out)); (case aS => exact (keep_size (w := w) (g := g) (row := none) zk)); (case aL => have := LMc17.out; omega); intro v244 w20 ho hb hg hat; rw [← Ny243.out] at ho; have n0_ := Aside0.mk (IsS116.grown zi6 hg (IsS116.own_ne HI0.out HO_3.out (by decide))); have n1_ := Aside0.mk (below_weaken zb HL.out hb); have n2_ := Aside0.mk (KeepBut.trans zk (KeepBut.of_grown hg g) (Kd.R_base2 HO_3.out)); have n3_ := Aside0.mk (ho); clear HI0; clear HB; clear HK; clear HO_3; have HI0 := n0_; have HB := n1_; have HK := n2_; have HO245 := n3_; clear n0_ n1_ n2_ n3_; clear ho hb hg hat))
          go_roundg kj10
          case measure => have := HK1.out; have := HJ5.out; have := HJ10.out; omega
          case rel => exact ⟨(y243), (wrap64 (x5_1 + 1)), (t240), (t241), (t242), zr, H', ⟨by have := HK1.out; have := HJ5.out; have := HJ10.out; omega⟩, ⟨by (with_reducible repeat (first | apply Kd.R_alloc | apply Kd.R_drewN | apply Kd.R_drew)); exact HO245.out⟩, ⟨zi6⟩, ⟨zk⟩, ⟨zb⟩⟩
         ·rw [if_neg c17] at H
          exact absurd H (by simp)
        ·replace c14 := Bool.eq_false_iff.mpr c14
         subst c14
         have H1 : ((dioramaref02_Cursor_Uint.f kj10 t233 t234 t235 16777216).bind fun bt246 => (if x3_1.length < 8796093022208 then (dioramaref24_getEdits.l0 kj10 (x3_1 ++ [(⟨t232, bt246.1⟩ : S138)]) t228 (wrap64 (x5_1 + 1)) bt246.2.1 bt246.2.2.1 bt246.2.2.2) else (none))) = some (r1, r2, r3, r4) := by rw [if_neg (show ¬ (false = true) by decide)] at H; exact H
         clear H
         have H := H1
         clear H1
         replace H := Option.bind_eq_some_iff.mp H
         obtain ⟨⟨t246, t247, t248, t249⟩, A210, H⟩ := H
         replace H : (if x3_1.length < 8796093022208 then (dioramaref24_getEdits.l0 kj10 (x3_1 ++ [(⟨t232, t246⟩ : S138)]) t228 (wrap64 (x5_1 + 1)) t247 t248 t249) else (none)) = some (r1, r2, r3, r4) := H
         have A21 := Aside0.mk A210
         clear A210
         by_cases c22 : x3_1.length < 8796093022208
         ·rw [if_pos c22] at H
          have LMc22 := Aside0.mk c22
          clear c22
          obtain ⟨y250, hy250⟩ : ∃ y_ : List (S138), y_ = (x3_1 ++ [(⟨t232, t246⟩ : S138)]) := ⟨_, rfl⟩
          replace H : (dioramaref24_getEdits.l0 kj10 y250 t228 (wrap64 (x5_1 + 1)) t247 t248 t249) = some (r1, r2, r3, r4) := by first | (rw [hy250]; with_reducible exact H) | (have H2_ := (Option.bind_some _ _).symm.trans H; rw [hy250]; with_reducible exact H2_) | (have H2_ := (Option.bind_some _ _).symm.trans H; with_reducible exact H2_) | with_reducible exact H | (rw [hy250]; exact H) | exact H
          have Ny250 := Aside0.mk hy250
          clear hy250
          have H' := Aside0.mk H
          clear H
          go_wp2_with (first | ((with_reducible refine gate_callee (f := 67) rfl ?_); refine goesL_ (some 35) rfl rfl Try.func67 (by kernel_rfl) rfl #[.pointer (some ⟨g, 0, none⟩), .int .u64 16777216] rfl zm ?_; (with_reducible refine (dioramaref02_Cursor_Uint.calls kj10 g t233 t234 t235 16777216 t246 t247 t248 t249 w0 _ ?side1 ?side2 A21.out).mono ?_); (case side1 => exact zi6); (case side2 => exact zb); rintro e w23 ⟨rfl, hi, hb, hk⟩; refine ⟨_, rfl, ?_⟩; have n0_ := Aside0.mk (Kd.R_mono (Kd.R_keep (IsS116.apart (show IsS116 w0 _ g t233 t234 t235 from zi6) (by (with_reducible repeat (first | apply Kd.R_alloc | apply Kd.R_drewN | apply Kd.R_drew)); exact HO_3.out) (by decide)) hk (fun _ h => h.2)) (fun _ h => h.1)); have n1_ := Aside0.mk (KeepBut.trans zk hk (.inl rfl)); have n2_ := Aside0.mk (hb); have n3_ := Aside0.mk (hi); clear HO_3; clear HK; clear HB; clear HI0; have HO_3 := n0_; have HK := n1_; have HB := n2_; have HI0 := n3_; clear n0_ n1_ n2_ n3_; (try clear hb); (try clear hb2); (try clear hk); (try clear hi)) | ((with_reducible refine gate_builtin (b := .append) (xs := #[.tmp 32, .tmp 37]) rfl ?_); at_builtin; refine Kd.R_append k138 w.heap.size rfl (.tmp 32) (.tmp 37) 100 138 (.agg #[(.int .i64 0), (.int .i64 0)]) 16 rfl Try.underlying100 info138 rfl (by decide) (by omega) u3 x3_1 (⟨t232, t246⟩ : S138) [.int .i64 t232, .int .i64 t246] (fun _ => True) (fun _ => False) rfl rfl ?aP (fun _ hk => hk.elim) ?aF ?aO (Below.refl _ _) ?aS ?aL ?_; (case aP => exact k138_mkM _ _ _ (⟨t232, t246⟩ : S138)); (case aF => exact (fun _ _ => trivial)); (case aO => exact (by (with_reducible repeat (first | apply Kd.R_alloc | apply Kd.R_drewN | apply Kd.R_drew)); exact HO_3.out)); (case aS => exact (keep_size (w := w) (g := g) (row := none) zk)); (case aL => have := LMc22.out; omega); intro v251 w24 ho hb hg hat; rw [← Ny250.out] at ho; have n0_ := Aside0.mk (IsS116.grown zi6 hg (IsS116.own_ne HI0.out HO_3.out (by decide))); have n1_ := Aside0.mk (below_weaken zb HL.out hb); have n2_ := Aside0.mk (KeepBut.trans zk (KeepBut.of_grown hg g) (Kd.R_base2 HO_3.out)); have n3_ := Aside0.mk (ho); clear HI0; clear HB; clear HK; clear HO_3; have HI0 := n0_; have HB := n1_; have HK := n2_; have HO252 := n3_; clear n0_ n1_ n2_ n3_; clear ho hb hg hat))
          go_roundg kj10
          case measure => have := HK1.out; have := HJ5.out; have := HJ10.out; omega
          case rel => exact ⟨(y250), (wrap64 (x5_1 + 1)), (t247), (t248), (t249), zr, H', ⟨by have := HK1.out; have := HJ5.out; have := HJ10.out; omega⟩, ⟨by (with_reducible repeat (first | apply Kd.R_alloc | apply Kd.R_drewN | apply Kd.R_drew)); exact HO252.out⟩, ⟨zi6⟩, ⟨zk⟩, ⟨zb⟩⟩
         ·rw [if_neg c22] at H
          exact absurd H (by simp)
     ·replace c9 := Bool.eq_false_iff.mpr c9
      subst c9
      have H1 : (some (x3_1, x1000_1, x1001_1, x1002_1)) = some (r1, r2, r3, r4) := by rw [if_neg (show ¬ (false = true) by decide)] at H; exact H
      clear H
      have H := H1
      clear H1
      simp only [Option.some.injEq, Prod.mk.injEq] at H
      obtain ⟨rfl, rfl, rfl, rfl⟩ := H
      go_wp2
      go_ret
      exact ⟨_, by first | rfl | (simp [errW_none, errW_some] <;> rfl) | (simp [*, errW_none, errW_some] <;> rfl), by (with_reducible repeat (first | apply Kd.R_alloc | apply Kd.R_drewN | apply Kd.R_drew)); exact HO_3.out, zi6, zb, zk⟩
end Go.Proofs.Ytdjpelcdijpihaa.PrintF
