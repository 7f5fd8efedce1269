/- A part of the proof of the claim: what it uses of the text HandSame. -/
import Derived.Test.YtdjpelcdijpihaaVHandGetOp
import Derived.Test.YtdjpelcdijpihaaVPrintG1
import Derived.Test.YtdjpelcdijpihaaShort
import Derived.Deep.RegionHeld3
namespace Go.Proofs.Ytdjpelcdijpihaa.PrintF
open Go.RowKit Go.Proofs.Ytdjpelcdijpihaa.Print Go.Proofs.YtdjpelcdijpihaaW.PrintWords Go.Proofs.YtdjpelcdijpihaaW.PrintLast Go.Lib
set_option linter.unusedVariables false
set_option linter.unusedSimpArgs false
attribute [local go_sem high] eqA127 eqA138
theorem size_alloc1 (w : World) (o : Obj) : (w.alloc o).heap.size = w.heap.size + 1 := by simp
theorem cellsQ61 {W : World} {g : Nat} {a b c d e : Value} (h : W.heap[g]? = some (.cells #[a, b, c, d, e] 61 (0, 0))) :
  W.cell? ⟨g, 0, none⟩ = some a ∧ W.cell? ⟨g, 1, none⟩ = some b ∧ W.cell? ⟨g, 2, none⟩ = some c ∧ W.cell? ⟨g, 3, none⟩ = some d ∧ W.cell? ⟨g, 4, none⟩ = some e :=
 ⟨(blk_cell h 0).trans rfl, (blk_cell h 1).trans rfl, (blk_cell h 2).trans rfl, (blk_cell h 3).trans rfl, (blk_cell h 4).trans rfl⟩
def NB (w : World) (ga gb : Nat) (ca cb : Array Value) (t : Nat) (W : World) : Prop := W.heap[ga]? = some (.cells ca t (0, 0)) ∧ W.heap[gb]? = some (.cells cb t (0, 0)) ∧ Below w.heap.size w W
theorem NB.step {w : World} {ga gb : Nat} {ca cb : Array Value} {t : Nat} {W W1 : World} (h : NB w ga gb ca cb t W) (k : Below W.heap.size W W1) : NB w ga gb ca cb t W1 := ⟨blk_below h.1 k, blk_below h.2.1 k, below_step h.2.2 k⟩
theorem NB.new (w : World) (ca cb : Array Value) (t : Nat) : NB w w.heap.size (w.alloc (.cells ca t)).heap.size ca cb t ((w.alloc (.cells ca t)).alloc (.cells cb t)) :=
 ⟨blk_below (heap_alloc_new w _) (below_alloc (Below.refl _ _) _), heap_alloc_new _ _, below_alloc (below_alloc (Below.refl _ _) _) _⟩
section
variable (k : Int) (l1 : List Int) (l2 : List ByteArray) (l3 : List Int) (A1 A2 A3 B1 B2 B3 : Option Addr) (c1 c2 c3 d1 d2 d3 : Nat) (w : World)
 (g1 : (Kd.int .i64).C w A1 l1.length l1) (g2 : Kd.string.C w A2 l2.length l2) (g3 : (Kd.int .i64).C w A3 l3.length l3) (h1 : (Kd.int .i64).C w B1 l1.length l1) (h2 : Kd.string.C w B2 l2.length l2) (h3 : (Kd.int .i64).C w B3 l3.length l3)
include g1 g2 h1 h2
set_option maxHeartbeats 8000000 in
set_option maxRecDepth 100000 in
theorem diff_same : Calls Try.prog 111 #[.agg #[.int .i64 k, .slice A1 l1.length c1, .slice A2 l2.length c2, .slice A3 l3.length c3], .agg #[.int .i64 k, .slice B1 l1.length d1, .slice B2 l2.length d2, .slice B3 l3.length d3]] w fun e w' => ∃ A c, e = .returned (.tuple #[.slice A 0 c, .bool true]) ∧ Below w.heap.size w w' := by
 have N0 := Lib.hid (NB.new w #[.int .i64 k, .slice A1 l1.length c1, .slice A2 l2.length c2, .slice A3 l3.length c3] #[.int .i64 k, .slice B1 l1.length d1, .slice B2 l2.length d2, .slice B3 l3.length d3] 105)
 have G1 := Lib.hid g1
 have G2 := Lib.hid g2
 have H1 := Lib.hid h1
 have H2 := Lib.hid h2
 have L1 : Hid (l1.length ≤ 9223372036854775807) := Lib.hid g1.2.1
 have L2 : Hid (l2.length ≤ 9223372036854775807) := Lib.hid g2.2.1
 clear g1 g2 h1 h2
 go_enter Try.func111, Try.ntmps111
 go_wp2_with fail
 go_loopw [6, 7] (fun o i wr => (∃ A c, o = .slice A 0 c) ∧ ∃ n : Nat, n ≤ l1.length ∧ i = .int .i64 n ∧ Hid (NB w w.heap.size (w.heap.size + 1) #[.int .i64 k, .slice A1 l1.length c1, .slice A2 l2.length c2, .slice A3 l3.length c3] #[.int .i64 k, .slice B1 l1.length d1, .slice B2 l2.length d2, .slice B3 l3.length d3] 105 wr)) (fun _ i _ => l1.length - (intOf i).toNat)
 case atStart => exact ⟨⟨_, _, rfl⟩, 0, Nat.zero_le _, rfl, Lib.hid (by have := NB.new w #[.int .i64 k, .slice A1 l1.length c1, .slice A2 l2.length c2, .slice A3 l3.length c3] #[.int .i64 k, .slice B1 l1.length d1, .slice B2 l2.length d2, .slice B3 l3.length d3] 105; rw [size_alloc1] at this; exact this.step (by repeat (first | exact Below.refl _ _ | apply below_alloc | apply below_drew1 | apply pw_below_drewN)))⟩
 case round =>
  obtain ⟨⟨Ao, co, rfl⟩, n, hn, rfl, N_⟩ := hrel
  have z1 : wr.cell? ⟨w.heap.size, 1, none⟩ = some (.slice A1 l1.length c1) := (blk_cell N_.out.1 1).trans rfl
  have z2 : wr.cell? ⟨w.heap.size, 2, none⟩ = some (.slice A2 l2.length c2) := (blk_cell N_.out.1 2).trans rfl
  have y1 : wr.cell? ⟨w.heap.size + 1, 1, none⟩ = some (.slice B1 l1.length d1) := (blk_cell N_.out.2.1 1).trans rfl
  have y2 : wr.cell? ⟨w.heap.size + 1, 2, none⟩ = some (.slice B2 l2.length d2) := (blk_cell N_.out.2.1 2).trans rfl
  by_cases hlt : n < l1.length
  ·have hd : decide ((n : Int) < (l1.length : Int)) = true := decide_eq_true (by omega)
   have HLT := Lib.hid hlt
   obtain ⟨ad, hA, hc0⟩ := int_at (Kd.C_below G1.out N_.out.2.2) hlt
   obtain ⟨bd, hB, hc1⟩ := int_at (Kd.C_below H1.out N_.out.2.2) hlt
   subst hA hB
   generalize l1[n] = v at hc0 hc1
   go_wp2_with fail
   refine wp_region_held_drew (S := fun w' => w'.cell? ⟨w.heap.size, 1, none⟩ = some (.slice (some ad) l1.length c1) ∧ w'.cell? ⟨w.heap.size + 1, 1, none⟩ = some (.slice (some bd) l1.length d1) ∧ w'.cell? (ad.add n) = some (.int .i64 v) ∧ w'.cell? (bd.add n) = some (.int .i64 v)) (by kernel_rfl) ⟨z1, y1, hc0, hc1⟩ (fun hHeld => ?_)
   refine tkz 0 rfl ?_ (.inl ⟨by rfl, ?_⟩) ?_
   rotate_left 1
   ·intro w hSw
    obtain ⟨s0, s1, s2, s3⟩ := hSw
    go_simp
    (try with_reducible rfl)
   (try simp only [Act.put, zq1, zq2, zq3, zq4, zq5, zq6])
   refine tkz 1 rfl ?_ (.inl ⟨by rfl, ?_⟩) ?_
   rotate_left 1
   ·intro w hSw
    obtain ⟨s0, s1, s2, s3⟩ := hSw
    go_simp
    (try with_reducible rfl)
   (try simp only [Act.put, zq1, zq2, zq3, zq4, zq5, zq6])
   refine tkz 2 rfl ?_ (.inl ⟨by rfl, ?_⟩) ?_
   rotate_left 1
   ·intro w hSw
    obtain ⟨s0, s1, s2, s3⟩ := hSw
    go_simp
    (try with_reducible rfl)
   (try simp only [Act.put, zq1, zq2, zq3, zq4, zq5, zq6])
   refine tkz 3 rfl ?_ (.inl ⟨by rfl, ?_⟩) ?_
   rotate_left 1
   ·intro w hSw
    obtain ⟨s0, s1, s2, s3⟩ := hSw
    go_simp
    (try with_reducible rfl)
   (try simp only [Act.put, zq1, zq2, zq3, zq4, zq5, zq6])
   refine tkz 4 rfl ?_ (.inl ⟨by rfl, ?_⟩) ?_
   rotate_left 1
   ·intro w hSw
    obtain ⟨s0, s1, s2, s3⟩ := hSw
    go_simp
    (try with_reducible rfl)
   (try simp only [Act.put, zq1, zq2, zq3, zq4, zq5, zq6])
   refine tkz 5 rfl ?_ (.inl ⟨by rfl, ?_⟩) ?_
   rotate_left 1
   ·intro w hSw
    obtain ⟨s0, s1, s2, s3⟩ := hSw
    go_simp
    (try with_reducible rfl)
   (try simp only [Act.put, zq1, zq2, zq3, zq4, zq5, zq6])
   refine tkz 6 rfl ?_ (.inl ⟨by rfl, ?_⟩) ?_
   rotate_left 1
   ·intro w hSw
    obtain ⟨s0, s1, s2, s3⟩ := hSw
    go_simp
    (try with_reducible rfl)
   (try simp only [Act.put, zq1, zq2, zq3, zq4, zq5, zq6])
   refine tkz 7 rfl ?_ (.inl ⟨by rfl, ?_⟩) ?_
   rotate_left 1
   ·intro w hSw
    obtain ⟨s0, s1, s2, s3⟩ := hSw
    go_simp
    (try with_reducible rfl)
   (try simp only [Act.put, zq1, zq2, zq3, zq4, zq5, zq6])
   refine tkz 8 rfl ?_ (.inl ⟨by rfl, ?_⟩) ?_
   rotate_left 1
   ·intro w hSw
    obtain ⟨s0, s1, s2, s3⟩ := hSw
    go_simp
    (try with_reducible rfl)
   (try simp only [Act.put, zq1, zq2, zq3, zq4, zq5, zq6])
   refine tkz 9 rfl ?_ (.inl ⟨by rfl, ?_⟩) ?_
   rotate_left 1
   ·intro w hSw
    obtain ⟨s0, s1, s2, s3⟩ := hSw
    go_simp
    (try with_reducible rfl)
   (try simp only [Act.put, zq1, zq2, zq3, zq4, zq5, zq6])
   refine tkz 10 rfl ?_ (.inl ⟨by rfl, ?_⟩) ?_
   rotate_left 1
   ·intro w hSw
    obtain ⟨s0, s1, s2, s3⟩ := hSw
    go_simp
    (try with_reducible rfl)
   (try simp only [Act.put, zq1, zq2, zq3, zq4, zq5, zq6])
   refine wpAnyH_done (by kernel_rfl) ?_ _
   go_wp2_with fail
   go_roundw
   case rel => exact ⟨⟨_, _, rfl⟩, n + 1, HLT.out, by rw [wrap_succ HLT.out L1.out], Lib.hid (N_.out.step (below_drew1 (Below.refl _ _)))⟩
   case measure => rw [wrap_succ HLT.out L1.out]; have := HLT.out; simp [intOf]; omega
  ·obtain rfl : n = l1.length := by omega
   have hd : decide ((l1.length : Int) < (l1.length : Int)) = false := decide_eq_false (by omega)
   go_wp2_with fail
   go_loopw [6, 8] (fun o i wr => (∃ A c, o = .slice A 0 c) ∧ ∃ n : Nat, n ≤ l2.length ∧ i = .int .i64 n ∧ Hid (NB w w.heap.size (w.heap.size + 1) #[.int .i64 k, .slice A1 l1.length c1, .slice A2 l2.length c2, .slice A3 l3.length c3] #[.int .i64 k, .slice B1 l1.length d1, .slice B2 l2.length d2, .slice B3 l3.length d3] 105 wr)) (fun _ i _ => l2.length - (intOf i).toNat)
   case atStart => exact ⟨⟨_, _, rfl⟩, 0, Nat.zero_le _, rfl, N_⟩
   case round =>
    clear z1 z2 y1 y2 N_
    obtain ⟨⟨Ao, co, rfl⟩, n, hn, rfl, N_⟩ := hrel
    have z2 : wr.cell? ⟨w.heap.size, 2, none⟩ = some (.slice A2 l2.length c2) := (blk_cell N_.out.1 2).trans rfl
    have y2 : wr.cell? ⟨w.heap.size + 1, 2, none⟩ = some (.slice B2 l2.length d2) := (blk_cell N_.out.2.1 2).trans rfl
    by_cases hlt : n < l2.length
    ·have hd : decide ((n : Int) < (l2.length : Int)) = true := decide_eq_true (by omega)
     have HLT := Lib.hid hlt
     obtain ⟨ad, hA, hc0⟩ := str_at (Kd.C_below G2.out N_.out.2.2) hlt
     obtain ⟨bd, hB, hc1⟩ := str_at (Kd.C_below H2.out N_.out.2.2) hlt
     subst hA hB
     generalize l2[n] = v at hc0 hc1
     go_wp2_with fail
     refine wp_region_held_drew (S := fun w' => w'.cell? ⟨w.heap.size, 2, none⟩ = some (.slice (some ad) l2.length c2) ∧ w'.cell? ⟨w.heap.size + 1, 2, none⟩ = some (.slice (some bd) l2.length d2) ∧ w'.cell? (ad.add n) = some (.string v) ∧ w'.cell? (bd.add n) = some (.string v)) (by kernel_rfl) ⟨z2, y2, hc0, hc1⟩ (fun hHeld => ?_)
     refine tkz 0 rfl ?_ (.inl ⟨by rfl, ?_⟩) ?_
     rotate_left 1
     ·intro w hSw
      obtain ⟨s0, s1, s2, s3⟩ := hSw
      go_simp
      (try with_reducible rfl)
     (try simp only [Act.put, zq1, zq2, zq3, zq4, zq5, zq6])
     refine tkz 1 rfl ?_ (.inl ⟨by rfl, ?_⟩) ?_
     rotate_left 1
     ·intro w hSw
      obtain ⟨s0, s1, s2, s3⟩ := hSw
      go_simp
      (try with_reducible rfl)
     (try simp only [Act.put, zq1, zq2, zq3, zq4, zq5, zq6])
     refine tkz 2 rfl ?_ (.inl ⟨by rfl, ?_⟩) ?_
     rotate_left 1
     ·intro w hSw
      obtain ⟨s0, s1, s2, s3⟩ := hSw
      go_simp
      (try with_reducible rfl)
     (try simp only [Act.put, zq1, zq2, zq3, zq4, zq5, zq6])
     refine tkz 3 rfl ?_ (.inl ⟨by rfl, ?_⟩) ?_
     rotate_left 1
     ·intro w hSw
      obtain ⟨s0, s1, s2, s3⟩ := hSw
      go_simp
      (try with_reducible rfl)
     (try simp only [Act.put, zq1, zq2, zq3, zq4, zq5, zq6])
     refine tkz 4 rfl ?_ (.inl ⟨by rfl, ?_⟩) ?_
     rotate_left 1
     ·intro w hSw
      obtain ⟨s0, s1, s2, s3⟩ := hSw
      go_simp
      (try with_reducible rfl)
     (try simp only [Act.put, zq1, zq2, zq3, zq4, zq5, zq6])
     refine tkz 5 rfl ?_ (.inl ⟨by rfl, ?_⟩) ?_
     rotate_left 1
     ·intro w hSw
      obtain ⟨s0, s1, s2, s3⟩ := hSw
      go_simp
      (try with_reducible rfl)
     (try simp only [Act.put, zq1, zq2, zq3, zq4, zq5, zq6])
     refine tkz 6 rfl ?_ (.inl ⟨by rfl, ?_⟩) ?_
     rotate_left 1
     ·intro w hSw
      obtain ⟨s0, s1, s2, s3⟩ := hSw
      go_simp
      (try with_reducible rfl)
     (try simp only [Act.put, zq1, zq2, zq3, zq4, zq5, zq6])
     refine tkz 7 rfl ?_ (.inl ⟨by rfl, ?_⟩) ?_
     rotate_left 1
     ·intro w hSw
      obtain ⟨s0, s1, s2, s3⟩ := hSw
      go_simp
      (try with_reducible rfl)
     (try simp only [Act.put, zq1, zq2, zq3, zq4, zq5, zq6])
     refine tkz 8 rfl ?_ (.inl ⟨by rfl, ?_⟩) ?_
     rotate_left 1
     ·intro w hSw
      obtain ⟨s0, s1, s2, s3⟩ := hSw
      go_simp
      (try with_reducible rfl)
     (try simp only [Act.put, zq1, zq2, zq3, zq4, zq5, zq6])
     refine tkz 9 rfl ?_ (.inl ⟨by rfl, ?_⟩) ?_
     rotate_left 1
     ·intro w hSw
      obtain ⟨s0, s1, s2, s3⟩ := hSw
      go_simp
      (try with_reducible rfl)
     (try simp only [Act.put, zq1, zq2, zq3, zq4, zq5, zq6])
     refine tkz 10 rfl ?_ (.inl ⟨by rfl, ?_⟩) ?_
     rotate_left 1
     ·intro w hSw
      obtain ⟨s0, s1, s2, s3⟩ := hSw
      go_simp
      (try with_reducible rfl)
     (try simp only [Act.put, zq1, zq2, zq3, zq4, zq5, zq6])
     refine wpAnyH_done (by kernel_rfl) ?_ _
     go_wp2_with fail
     go_roundw
     case rel => exact ⟨⟨_, _, rfl⟩, n + 1, HLT.out, by rw [wrap_succ HLT.out L2.out], Lib.hid (N_.out.step (below_drew1 (Below.refl _ _)))⟩
     case measure => rw [wrap_succ HLT.out L2.out]; have := HLT.out; simp [intOf]; omega
    ·obtain rfl : n = l2.length := by omega
     have hd : decide ((l2.length : Int) < (l2.length : Int)) = false := decide_eq_false (by omega)
     go_wp2_with fail
     go_ret2
     exact ⟨_, _, rfl, N_.out.2.2⟩
set_option maxHeartbeats 8000000 in
set_option maxRecDepth 100000 in
theorem own_same : Calls Try.prog 104 #[.agg #[.int .i64 k, .slice A1 l1.length c1, .slice A2 l2.length c2, .slice A3 l3.length c3], .agg #[.int .i64 k, .slice B1 l1.length d1, .slice B2 l2.length d2, .slice B3 l3.length d3]] w fun e w' => e = .returned (.bool true) ∧ Below w.heap.size w w' := by
 have D : ∀ W, Below w.heap.size w W → Calls Try.prog 111 #[.agg #[.int .i64 k, .slice A1 l1.length c1, .slice A2 l2.length c2, .slice A3 l3.length c3], .agg #[.int .i64 k, .slice B1 l1.length d1, .slice B2 l2.length d2, .slice B3 l3.length d3]] W fun e w' => ∃ A c, e = .returned (.tuple #[.slice A 0 c, .bool true]) ∧ Below W.heap.size W w' := fun W hb =>
  diff_same k l1 l2 l3 A1 A2 A3 B1 B2 B3 c1 c2 c3 d1 d2 d3 W (Kd.C_below g1 hb) (Kd.C_below g2 hb) (Kd.C_below h1 hb) (Kd.C_below h2 hb)
 have DD := Lib.hid D
 clear D g1 g2 h1 h2
 go_enter Try.func104, Try.ntmps104
 go_wp2_with (go_at_call 111; refine (DD.out _ (by repeat (first | exact Below.refl _ _ | apply below_alloc | apply below_drew1 | apply pw_below_drewN))).mono ?_; rintro e w1 ⟨Ad, cd, rfl, hb⟩)
 go_ret
 exact ⟨rfl, below_step (by repeat (first | exact Below.refl _ _ | apply below_alloc | apply below_drew1 | apply pw_below_drewN)) hb⟩
include g3 h3
set_option maxHeartbeats 8000000 in
set_option maxRecDepth 100000 in
theorem same_same : Calls Try.prog 78 #[.agg #[.int .i64 k, .slice A1 l1.length c1, .slice A2 l2.length c2, .slice A3 l3.length c3], .agg #[.int .i64 k, .slice B1 l1.length d1, .slice B2 l2.length d2, .slice B3 l3.length d3]] w fun e w' => e = .returned (.bool true) ∧ Below w.heap.size w w' := by
 have D : ∀ W, Below w.heap.size w W → Calls Try.prog 104 #[.agg #[.int .i64 k, .slice A1 l1.length c1, .slice A2 l2.length c2, .slice A3 l3.length c3], .agg #[.int .i64 k, .slice B1 l1.length d1, .slice B2 l2.length d2, .slice B3 l3.length d3]] W fun e w' => e = .returned (.bool true) ∧ Below W.heap.size W w' := fun W hb =>
  own_same k l1 l2 l3 A1 A2 A3 B1 B2 B3 c1 c2 c3 d1 d2 d3 W (Kd.C_below g1 hb) (Kd.C_below g2 hb) (Kd.C_below h1 hb) (Kd.C_below h2 hb)
 have DD := Lib.hid D
 have G3 := Lib.hid g3
 have H3 := Lib.hid h3
 have L3 : Hid (l3.length ≤ 9223372036854775807) := Lib.hid g3.2.1
 have N0 : Hid (NB w w.heap.size (w.heap.size + 1) #[.int .i64 k, .slice A1 l1.length c1, .slice A2 l2.length c2, .slice A3 l3.length c3] #[.int .i64 k, .slice B1 l1.length d1, .slice B2 l2.length d2, .slice B3 l3.length d3] 105 ((w.alloc (.cells #[.int .i64 k, .slice A1 l1.length c1, .slice A2 l2.length c2, .slice A3 l3.length c3] 105)).alloc (.cells #[.int .i64 k, .slice B1 l1.length d1, .slice B2 l2.length d2, .slice B3 l3.length d3] 105))) := Lib.hid (by have := NB.new w #[.int .i64 k, .slice A1 l1.length c1, .slice A2 l2.length c2, .slice A3 l3.length c3] #[.int .i64 k, .slice B1 l1.length d1, .slice B2 l2.length d2, .slice B3 l3.length d3] 105; rw [size_alloc1] at this; exact this)
 clear D g1 g2 g3 h1 h2 h3
 go_enter Try.func78, Try.ntmps78
 go_wp2_with (go_at_call 104; refine (DD.out _ (by repeat (first | exact Below.refl _ _ | apply below_alloc | apply below_drew1 | apply pw_below_drewN))).mono ?_; rintro e w1 ⟨rfl, hb⟩; have N_ := Lib.hid (N0.out.step hb); clear N0 hb; have z3 : w1.cell? ⟨w.heap.size, 3, none⟩ = some (.slice A3 l3.length c3) := (blk_cell N_.out.1 3).trans rfl; have y3 : w1.cell? ⟨w.heap.size + 1, 3, none⟩ = some (.slice B3 l3.length d3) := (blk_cell N_.out.2.1 3).trans rfl)
 go_loopw [5] (fun i wr => ∃ n : Nat, n ≤ l3.length ∧ i = .int .i64 n ∧ Hid (NB w w.heap.size (w.heap.size + 1) #[.int .i64 k, .slice A1 l1.length c1, .slice A2 l2.length c2, .slice A3 l3.length c3] #[.int .i64 k, .slice B1 l1.length d1, .slice B2 l2.length d2, .slice B3 l3.length d3] 105 wr)) (fun i _ => l3.length - (intOf i).toNat)
 case atStart => exact ⟨0, Nat.zero_le _, rfl, N_⟩
 case round =>
  clear N_ z3 y3
  obtain ⟨n, hn, rfl, N_⟩ := hrel
  have z3 : wr.cell? ⟨w.heap.size, 3, none⟩ = some (.slice A3 l3.length c3) := (blk_cell N_.out.1 3).trans rfl
  have y3 : wr.cell? ⟨w.heap.size + 1, 3, none⟩ = some (.slice B3 l3.length d3) := (blk_cell N_.out.2.1 3).trans rfl
  by_cases hlt : n < l3.length
  ·have hd : decide ((n : Int) < (l3.length : Int)) = true := decide_eq_true (by omega)
   have HLT := Lib.hid hlt
   obtain ⟨ad, hA, hc0⟩ := int_at (Kd.C_below G3.out N_.out.2.2) hlt
   obtain ⟨bd, hB, hc1⟩ := int_at (Kd.C_below H3.out N_.out.2.2) hlt
   subst hA hB
   generalize l3[n] = v at hc0 hc1
   go_wp2_with fail
   refine wp_region_held_drew (S := fun w' => w'.cell? ⟨w.heap.size, 3, none⟩ = some (.slice (some ad) l3.length c3) ∧ w'.cell? ⟨w.heap.size + 1, 3, none⟩ = some (.slice (some bd) l3.length d3) ∧ w'.cell? (ad.add n) = some (.int .i64 v) ∧ w'.cell? (bd.add n) = some (.int .i64 v)) (by kernel_rfl) ⟨z3, y3, hc0, hc1⟩ (fun hHeld => ?_)
   refine tkz 0 rfl ?_ (.inl ⟨by rfl, ?_⟩) ?_
   rotate_left 1
   ·intro w hSw
    obtain ⟨s0, s1, s2, s3⟩ := hSw
    go_simp
    (try with_reducible rfl)
   (try simp only [Act.put, zq1, zq2, zq3, zq4, zq5, zq6])
   refine tkz 1 rfl ?_ (.inl ⟨by rfl, ?_⟩) ?_
   rotate_left 1
   ·intro w hSw
    obtain ⟨s0, s1, s2, s3⟩ := hSw
    go_simp
    (try with_reducible rfl)
   (try simp only [Act.put, zq1, zq2, zq3, zq4, zq5, zq6])
   refine tkz 2 rfl ?_ (.inl ⟨by rfl, ?_⟩) ?_
   rotate_left 1
   ·intro w hSw
    obtain ⟨s0, s1, s2, s3⟩ := hSw
    go_simp
    (try with_reducible rfl)
   (try simp only [Act.put, zq1, zq2, zq3, zq4, zq5, zq6])
   refine tkz 3 rfl ?_ (.inl ⟨by rfl, ?_⟩) ?_
   rotate_left 1
   ·intro w hSw
    obtain ⟨s0, s1, s2, s3⟩ := hSw
    go_simp
    (try with_reducible rfl)
   (try simp only [Act.put, zq1, zq2, zq3, zq4, zq5, zq6])
   refine tkz 4 rfl ?_ (.inl ⟨by rfl, ?_⟩) ?_
   rotate_left 1
   ·intro w hSw
    obtain ⟨s0, s1, s2, s3⟩ := hSw
    go_simp
    (try with_reducible rfl)
   (try simp only [Act.put, zq1, zq2, zq3, zq4, zq5, zq6])
   refine tkz 5 rfl ?_ (.inl ⟨by rfl, ?_⟩) ?_
   rotate_left 1
   ·intro w hSw
    obtain ⟨s0, s1, s2, s3⟩ := hSw
    go_simp
    (try with_reducible rfl)
   (try simp only [Act.put, zq1, zq2, zq3, zq4, zq5, zq6])
   refine tkz 6 rfl ?_ (.inl ⟨by rfl, ?_⟩) ?_
   rotate_left 1
   ·intro w hSw
    obtain ⟨s0, s1, s2, s3⟩ := hSw
    go_simp
    (try with_reducible rfl)
   (try simp only [Act.put, zq1, zq2, zq3, zq4, zq5, zq6])
   refine tkz 7 rfl ?_ (.inl ⟨by rfl, ?_⟩) ?_
   rotate_left 1
   ·intro w hSw
    obtain ⟨s0, s1, s2, s3⟩ := hSw
    go_simp
    (try with_reducible rfl)
   (try simp only [Act.put, zq1, zq2, zq3, zq4, zq5, zq6])
   refine tkz 8 rfl ?_ (.inl ⟨by rfl, ?_⟩) ?_
   rotate_left 1
   ·intro w hSw
    obtain ⟨s0, s1, s2, s3⟩ := hSw
    go_simp
    (try with_reducible rfl)
   (try simp only [Act.put, zq1, zq2, zq3, zq4, zq5, zq6])
   refine tkz 9 rfl ?_ (.inl ⟨by rfl, ?_⟩) ?_
   rotate_left 1
   ·intro w hSw
    obtain ⟨s0, s1, s2, s3⟩ := hSw
    go_simp
    (try with_reducible rfl)
   (try simp only [Act.put, zq1, zq2, zq3, zq4, zq5, zq6])
   refine tkz 10 rfl ?_ (.inl ⟨by rfl, ?_⟩) ?_
   rotate_left 1
   ·intro w hSw
    obtain ⟨s0, s1, s2, s3⟩ := hSw
    go_simp
    (try with_reducible rfl)
   (try simp only [Act.put, zq1, zq2, zq3, zq4, zq5, zq6])
   refine wpAnyH_done (by kernel_rfl) ?_ _
   go_wp2_with fail
   go_roundw
   case rel => exact ⟨n + 1, HLT.out, by rw [wrap_succ HLT.out L3.out], Lib.hid (N_.out.step (below_drew1 (Below.refl _ _)))⟩
   case measure => rw [wrap_succ HLT.out L3.out]; have := HLT.out; simp [intOf]; omega
  ·obtain rfl : n = l3.length := by omega
   have hd : decide ((l3.length : Int) < (l3.length : Int)) = false := decide_eq_false (by omega)
   go_wp2_with fail
   go_ret
   exact ⟨rfl, N_.out.2.2⟩
end
set_option maxHeartbeats 8000000 in
set_option maxRecDepth 100000 in
theorem sets_same (l : List S127) (A B : Option Addr) (c d : Nat) (w : World) (g : k127.C w A l.length l) (h : k127.C w B l.length l) : Calls Try.prog 96 #[.slice A l.length c, .slice B l.length d] w fun e w' => e = .returned (.bool true) ∧ Below w.heap.size w w' := by
 have G := Lib.hid g
 have H := Lib.hid h
 have LL : Hid (l.length ≤ 9223372036854775807) := Lib.hid g.2.1
 clear g h
 go_enter Try.func96, Try.ntmps96
 go_wp2_with fail
 go_loopw [5] (fun i wr => ∃ n : Nat, n ≤ l.length ∧ i = .int .i64 n ∧ Hid (Below w.heap.size w wr)) (fun i _ => l.length - (intOf i).toNat)
 case atStart => exact ⟨0, Nat.zero_le _, rfl, Lib.hid (by repeat (first | exact Below.refl _ _ | apply below_alloc | apply below_drew1 | apply pw_below_drewN))⟩
 case round =>
  obtain ⟨n, hn, rfl, B_⟩ := hrel
  by_cases hlt : n < l.length
  ·have hd : decide ((n : Int) < (l.length : Int)) = true := decide_eq_true (by omega)
   have HLT := Lib.hid hlt
   obtain ⟨ad, hA, hc0, hc1, hc2, hc3⟩ := at_T127 (Kd.C_below G.out B_.out) (n : Int) (by omega) (by omega)
   obtain ⟨bd, hB, he0, he1, he2, he3⟩ := at_T127 (Kd.C_below H.out B_.out) (n : Int) (by omega) (by omega)
   subst hA hB
   rw [Int.toNat_natCast, rd127 hlt] at hc0 hc1 hc2 hc3 he0 he1 he2 he3
   generalize l[n] = s at hc0 hc1 hc2 hc3 he0 he1 he2 he3
   obtain ⟨t, f, n_, x⟩ := s
   dsimp only at hc0 hc1 hc2 hc3 he0 he1 he2 he3
   go_wp2_with fail
   refine wp_region_held_drew (S := fun w' => w'.cell? (ad.add (n * 4)) = some (.bool t) ∧ w'.cell? ⟨(ad.add (n * 4)).block, (ad.add (n * 4)).off + 1, none⟩ = some (.int .i64 f) ∧ w'.cell? ⟨(ad.add (n * 4)).block, (ad.add (n * 4)).off + 2, none⟩ = some (.int .i64 n_) ∧ w'.cell? ⟨(ad.add (n * 4)).block, (ad.add (n * 4)).off + 3, none⟩ = some (.string x) ∧ w'.cell? (bd.add (n * 4)) = some (.bool t) ∧ w'.cell? ⟨(bd.add (n * 4)).block, (bd.add (n * 4)).off + 1, none⟩ = some (.int .i64 f) ∧ w'.cell? ⟨(bd.add (n * 4)).block, (bd.add (n * 4)).off + 2, none⟩ = some (.int .i64 n_) ∧ w'.cell? ⟨(bd.add (n * 4)).block, (bd.add (n * 4)).off + 3, none⟩ = some (.string x)) (by kernel_rfl) ⟨hc0, hc1, hc2, hc3, he0, he1, he2, he3⟩ (fun hHeld => ?_)
   refine tkz 0 rfl ?_ (.inl ⟨by rfl, ?_⟩) ?_
   rotate_left 1
   ·intro w hSw
    obtain ⟨s0, s1, s2, s3, s4, s5, s6, s7⟩ := hSw
    go_simp
    (try with_reducible rfl)
   (try simp only [Act.put, zq1, zq2, zq3, zq4, zq5, zq6])
   refine tkz 1 rfl ?_ (.inl ⟨by rfl, ?_⟩) ?_
   rotate_left 1
   ·intro w hSw
    obtain ⟨s0, s1, s2, s3, s4, s5, s6, s7⟩ := hSw
    go_simp
    (try with_reducible rfl)
   (try simp only [Act.put, zq1, zq2, zq3, zq4, zq5, zq6])
   refine tkz 2 rfl ?_ (.inl ⟨by rfl, ?_⟩) ?_
   rotate_left 1
   ·intro w hSw
    obtain ⟨s0, s1, s2, s3, s4, s5, s6, s7⟩ := hSw
    go_simp
    (try with_reducible rfl)
   (try simp only [Act.put, zq1, zq2, zq3, zq4, zq5, zq6])
   refine tkz 3 rfl ?_ (.inl ⟨by rfl, ?_⟩) ?_
   rotate_left 1
   ·intro w hSw
    obtain ⟨s0, s1, s2, s3, s4, s5, s6, s7⟩ := hSw
    go_simp
    (try with_reducible rfl)
   (try simp only [Act.put, zq1, zq2, zq3, zq4, zq5, zq6])
   refine tkz 4 rfl ?_ (.inl ⟨by rfl, ?_⟩) ?_
   rotate_left 1
   ·intro w hSw
    obtain ⟨s0, s1, s2, s3, s4, s5, s6, s7⟩ := hSw
    go_simp
    (try with_reducible rfl)
   (try simp only [Act.put, zq1, zq2, zq3, zq4, zq5, zq6])
   refine tkz 5 rfl ?_ (.inl ⟨by rfl, ?_⟩) ?_
   rotate_left 1
   ·intro w hSw
    obtain ⟨s0, s1, s2, s3, s4, s5, s6, s7⟩ := hSw
    go_simp
    (try with_reducible rfl)
   (try simp only [Act.put, zq1, zq2, zq3, zq4, zq5, zq6])
   refine tkz 6 rfl ?_ (.inl ⟨by rfl, ?_⟩) ?_
   rotate_left 1
   ·intro w hSw
    obtain ⟨s0, s1, s2, s3, s4, s5, s6, s7⟩ := hSw
    go_simp
    (try with_reducible rfl)
   (try simp only [Act.put, zq1, zq2, zq3, zq4, zq5, zq6])
   refine tkz 7 rfl ?_ (.inl ⟨by rfl, ?_⟩) ?_
   rotate_left 1
   ·intro w hSw
    obtain ⟨s0, s1, s2, s3, s4, s5, s6, s7⟩ := hSw
    go_simp
    (try with_reducible rfl)
   (try simp only [Act.put, zq1, zq2, zq3, zq4, zq5, zq6])
   refine tkz 8 rfl ?_ (.inl ⟨by rfl, ?_⟩) ?_
   rotate_left 1
   ·intro w hSw
    obtain ⟨s0, s1, s2, s3, s4, s5, s6, s7⟩ := hSw
    go_simp
    (try with_reducible rfl)
   (try simp only [Act.put, zq1, zq2, zq3, zq4, zq5, zq6])
   refine wpAnyH_done (by kernel_rfl) ?_ _
   go_wp2_with fail
   go_roundw
   case rel => exact ⟨n + 1, HLT.out, by rw [wrap_succ HLT.out LL.out], Lib.hid (below_drew1 B_.out)⟩
   case measure => rw [wrap_succ HLT.out LL.out]; have := HLT.out; simp [intOf]; omega
  ·obtain rfl : n = l.length := by omega
   have hd : decide ((l.length : Int) < (l.length : Int)) = false := decide_eq_false (by omega)
   go_wp2_with fail
   go_ret
   exact ⟨rfl, B_.out⟩
set_option maxHeartbeats 8000000 in
set_option maxRecDepth 100000 in
theorem edits_same (l : List S138) (A B : Option Addr) (c d : Nat) (w : World) (g : k138.C w A l.length l) (h : k138.C w B l.length l) : Calls Try.prog 97 #[.slice A l.length c, .slice B l.length d] w fun e w' => e = .returned (.bool true) ∧ Below w.heap.size w w' := by
 have G := Lib.hid g
 have H := Lib.hid h
 have LL : Hid (l.length ≤ 9223372036854775807) := Lib.hid g.2.1
 clear g h
 go_enter Try.func97, Try.ntmps97
 go_wp2_with fail
 go_loopw [5] (fun i wr => ∃ n : Nat, n ≤ l.length ∧ i = .int .i64 n ∧ Hid (Below w.heap.size w wr)) (fun i _ => l.length - (intOf i).toNat)
 case atStart => exact ⟨0, Nat.zero_le _, rfl, Lib.hid (by repeat (first | exact Below.refl _ _ | apply below_alloc | apply below_drew1 | apply pw_below_drewN))⟩
 case round =>
  obtain ⟨n, hn, rfl, B_⟩ := hrel
  by_cases hlt : n < l.length
  ·have hd : decide ((n : Int) < (l.length : Int)) = true := decide_eq_true (by omega)
   have HLT := Lib.hid hlt
   obtain ⟨ad, hA, hc0, hc1⟩ := at_T138 (Kd.C_below G.out B_.out) (n : Int) (by omega) (by omega)
   obtain ⟨bd, hB, he0, he1⟩ := at_T138 (Kd.C_below H.out B_.out) (n : Int) (by omega) (by omega)
   subst hA hB
   rw [Int.toNat_natCast, rd138 hlt] at hc0 hc1 he0 he1
   generalize l[n] = s at hc0 hc1 he0 he1
   obtain ⟨a, b⟩ := s
   dsimp only at hc0 hc1 he0 he1
   go_wp2_with fail
   refine wp_region_held_drew (S := fun w' => w'.cell? (ad.add (n * 2)) = some (.int .i64 a) ∧ w'.cell? ⟨(ad.add (n * 2)).block, (ad.add (n * 2)).off + 1, none⟩ = some (.int .i64 b) ∧ w'.cell? (bd.add (n * 2)) = some (.int .i64 a) ∧ w'.cell? ⟨(bd.add (n * 2)).block, (bd.add (n * 2)).off + 1, none⟩ = some (.int .i64 b)) (by kernel_rfl) ⟨hc0, hc1, he0, he1⟩ (fun hHeld => ?_)
   refine tkz 0 rfl ?_ (.inl ⟨by rfl, ?_⟩) ?_
   rotate_left 1
   ·intro w hSw
    obtain ⟨s0, s1, s2, s3⟩ := hSw
    go_simp
    (try with_reducible rfl)
   (try simp only [Act.put, zq1, zq2, zq3, zq4, zq5, zq6])
   refine tkz 1 rfl ?_ (.inl ⟨by rfl, ?_⟩) ?_
   rotate_left 1
   ·intro w hSw
    obtain ⟨s0, s1, s2, s3⟩ := hSw
    go_simp
    (try with_reducible rfl)
   (try simp only [Act.put, zq1, zq2, zq3, zq4, zq5, zq6])
   refine tkz 2 rfl ?_ (.inl ⟨by rfl, ?_⟩) ?_
   rotate_left 1
   ·intro w hSw
    obtain ⟨s0, s1, s2, s3⟩ := hSw
    go_simp
    (try with_reducible rfl)
   (try simp only [Act.put, zq1, zq2, zq3, zq4, zq5, zq6])
   refine tkz 3 rfl ?_ (.inl ⟨by rfl, ?_⟩) ?_
   rotate_left 1
   ·intro w hSw
    obtain ⟨s0, s1, s2, s3⟩ := hSw
    go_simp
    (try with_reducible rfl)
   (try simp only [Act.put, zq1, zq2, zq3, zq4, zq5, zq6])
   refine tkz 4 rfl ?_ (.inl ⟨by rfl, ?_⟩) ?_
   rotate_left 1
   ·intro w hSw
    obtain ⟨s0, s1, s2, s3⟩ := hSw
    go_simp
    (try with_reducible rfl)
   (try simp only [Act.put, zq1, zq2, zq3, zq4, zq5, zq6])
   refine tkz 5 rfl ?_ (.inl ⟨by rfl, ?_⟩) ?_
   rotate_left 1
   ·intro w hSw
    obtain ⟨s0, s1, s2, s3⟩ := hSw
    go_simp
    (try with_reducible rfl)
   (try simp only [Act.put, zq1, zq2, zq3, zq4, zq5, zq6])
   refine tkz 6 rfl ?_ (.inl ⟨by rfl, ?_⟩) ?_
   rotate_left 1
   ·intro w hSw
    obtain ⟨s0, s1, s2, s3⟩ := hSw
    go_simp
    (try with_reducible rfl)
   (try simp only [Act.put, zq1, zq2, zq3, zq4, zq5, zq6])
   refine tkz 7 rfl ?_ (.inl ⟨by rfl, ?_⟩) ?_
   rotate_left 1
   ·intro w hSw
    obtain ⟨s0, s1, s2, s3⟩ := hSw
    go_simp
    (try with_reducible rfl)
   (try simp only [Act.put, zq1, zq2, zq3, zq4, zq5, zq6])
   refine tkz 8 rfl ?_ (.inl ⟨by rfl, ?_⟩) ?_
   rotate_left 1
   ·intro w hSw
    obtain ⟨s0, s1, s2, s3⟩ := hSw
    go_simp
    (try with_reducible rfl)
   (try simp only [Act.put, zq1, zq2, zq3, zq4, zq5, zq6])
   refine wpAnyH_done (by kernel_rfl) ?_ _
   go_wp2_with fail
   go_roundw
   case rel => exact ⟨n + 1, HLT.out, by rw [wrap_succ HLT.out LL.out], Lib.hid (below_drew1 B_.out)⟩
   case measure => rw [wrap_succ HLT.out LL.out]; have := HLT.out; simp [intOf]; omega
  ·obtain rfl : n = l.length := by omega
   have hd : decide ((l.length : Int) < (l.length : Int)) = false := decide_eq_false (by omega)
   go_wp2_with fail
   go_ret
   exact ⟨rfl, B_.out⟩
set_option maxHeartbeats 8000000 in
set_option maxRecDepth 100000 in
theorem ops_same (l : List S107) (A B : Option Addr) (c d : Nat) (w : World) (g : k107.C w A l.length l) (h : k107.C w B l.length l) : Calls Try.prog 69 #[.slice A l.length c, .slice B l.length d] w fun e w' => e = .returned (.bool true) ∧ Below w.heap.size w w' := by
 have G := Lib.hid g
 have H := Lib.hid h
 have LL : Hid (l.length ≤ 9223372036854775807) := Lib.hid g.2.1
 clear g h
 go_enter Try.func69, Try.ntmps69
 go_wp2_with fail
 go_loopw [5] (fun i wr => ∃ n : Nat, n ≤ l.length ∧ i = .int .i64 n ∧ Hid (Below w.heap.size w wr)) (fun i _ => l.length - (intOf i).toNat)
 case atStart => exact ⟨0, Nat.zero_le _, rfl, Lib.hid (by repeat (first | exact Below.refl _ _ | apply below_alloc | apply below_drew1 | apply pw_below_drewN))⟩
 case round =>
  obtain ⟨n, hn, rfl, B_⟩ := hrel
  by_cases hlt : n < l.length
  ·have hd : decide ((n : Int) < (l.length : Int)) = true := decide_eq_true (by omega)
   have HLT := Lib.hid hlt
   have HN := Lib.hid hn
   obtain ⟨ad, A2, a2, A3, a3, A5, a5, A6, a6, A7, a7, hA, hc0, hc1, hc2, hc3, hc4, hc5, hc6, hc7, l2A, g2A, l3A, g3A, l5A, g5A, l6A, g6A, l7A, g7A⟩ := at_T107 (G.out) (n : Int) (by omega) (by omega)
   subst hA
   rw [Int.toNat_natCast] at hc0 hc1 hc2 hc3 hc4 hc5 hc6 hc7
   obtain ⟨o, ho⟩ : ∃ o, rd_T107 l (n : Int) = o := ⟨_, rfl⟩
   rw [ho] at hc0 hc1 hc2 hc3 hc4 hc5 hc6 hc7 g2A g3A g5A g6A g7A
   have HO := Lib.hid ho
   clear ho
   replace hc0 := pw_cell_below B_.out hc0
   replace hc1 := pw_cell_below B_.out hc1
   replace hc2 := pw_cell_below B_.out hc2
   replace hc3 := pw_cell_below B_.out hc3
   replace hc4 := pw_cell_below B_.out hc4
   replace hc5 := pw_cell_below B_.out hc5
   replace hc6 := pw_cell_below B_.out hc6
   replace hc7 := pw_cell_below B_.out hc7
   have GA := Lib.hid (And.intro g2A (And.intro g3A (And.intro g5A (And.intro g6A g7A))))
   clear g2A g3A g5A g6A g7A l2A l3A l5A l6A l7A hn
   go_upto_region 7 with ((with_reducible refine gate_dst (N := 6) rfl ?_); refine box_event ?hg (N := 6) ?hd (cs := #[.int .i64 0, .int .i64 0, .slice none 0 0, .slice none 0 0, .int .i64 0, .slice none 0 0, .slice none 0 0, .slice none 0 0]) (t := 107) ?hr ?_; (case hd => rfl); (case hg => rfl); (case hr => first | (go_simp; done) | (go_simp; rfl)); intro gx hgx w4 hbx hb_; have HX : Hid (w4.heap[gx]? = some (.cells #[.int .i64 0, .int .i64 0, .slice none 0 0, .slice none 0 0, .int .i64 0, .slice none 0 0, .slice none 0 0, .slice none 0 0] 107 (0, 0))) := Lib.hid hbx; have GX : Hid (w.heap.size ≤ gx) := Lib.hid (by rw [hgx]; exact B_.out.size); have BQ := Lib.hid (below_step B_.out hb_); clear hgx hbx hb_; obtain ⟨⟨z0, z1, z2, z3, z4, z5, z6, z7⟩, q0, q1, q2, q3, q4, q5, q6, q7⟩ := cells8 HX.out)
   have BX : Hid (((((((((w4.setCell ⟨gx, 0, none⟩ (.int .i64 o.f0)).setCell ⟨gx, 1, none⟩ (.int .i64 o.f1)).setCell ⟨gx, 2, none⟩ (.slice A2 o.f2.length a2)).setCell ⟨gx, 3, none⟩ (.slice A3 o.f3.length a3)).setCell ⟨gx, 4, none⟩ (.int .i64 o.f4.f0)).setCell ⟨gx, 5, none⟩ (.slice A5 o.f4.f1.length a5)).setCell ⟨gx, 6, none⟩ (.slice A6 o.f4.f2.length a6)).setCell ⟨gx, 7, none⟩ (.slice A7 o.f4.f3.length a7)).heap[gx]? = some (.cells #[.int .i64 o.f0, .int .i64 o.f1, .slice A2 o.f2.length a2, .slice A3 o.f3.length a3, .int .i64 o.f4.f0, .slice A5 o.f4.f1.length a5, .slice A6 o.f4.f2.length a6, .slice A7 o.f4.f3.length a7] 107 (0, 0))) := Lib.hid (set107 _ _ _ _ _ _ _ _ HX.out)
   have BW : Hid (Below w.heap.size w ((((((((w4.setCell ⟨gx, 0, none⟩ (.int .i64 o.f0)).setCell ⟨gx, 1, none⟩ (.int .i64 o.f1)).setCell ⟨gx, 2, none⟩ (.slice A2 o.f2.length a2)).setCell ⟨gx, 3, none⟩ (.slice A3 o.f3.length a3)).setCell ⟨gx, 4, none⟩ (.int .i64 o.f4.f0)).setCell ⟨gx, 5, none⟩ (.slice A5 o.f4.f1.length a5)).setCell ⟨gx, 6, none⟩ (.slice A6 o.f4.f2.length a6)).setCell ⟨gx, 7, none⟩ (.slice A7 o.f4.f3.length a7))) := Lib.hid (below_set (below_set (below_set (below_set (below_set (below_set (below_set (below_set BQ.out GX.out) GX.out) GX.out) GX.out) GX.out) GX.out) GX.out) GX.out)
   generalize ((((((((w4.setCell ⟨gx, 0, none⟩ (.int .i64 o.f0)).setCell ⟨gx, 1, none⟩ (.int .i64 o.f1)).setCell ⟨gx, 2, none⟩ (.slice A2 o.f2.length a2)).setCell ⟨gx, 3, none⟩ (.slice A3 o.f3.length a3)).setCell ⟨gx, 4, none⟩ (.int .i64 o.f4.f0)).setCell ⟨gx, 5, none⟩ (.slice A5 o.f4.f1.length a5)).setCell ⟨gx, 6, none⟩ (.slice A6 o.f4.f2.length a6)).setCell ⟨gx, 7, none⟩ (.slice A7 o.f4.f3.length a7)) = W5 at BX BW ⊢
   clear HX BQ z0 z1 z2 z3 z4 z5 z6 z7 q0 q1 q2 q3 q4 q5 q6 q7 hc0 hc1 hc2 hc3 hc4 hc5 hc6 hc7
   obtain ⟨bd, B2, b2, B3, b3, B5, b5, B6, b6, B7, b7, hB, he0, he1, he2, he3, he4, he5, he6, he7, l2B, g2B, l3B, g3B, l5B, g5B, l6B, g6B, l7B, g7B⟩ := at_T107 (H.out) (n : Int) (by omega) (by omega)
   subst hB
   rw [Int.toNat_natCast] at he0 he1 he2 he3 he4 he5 he6 he7
   rw [HO.out] at he0 he1 he2 he3 he4 he5 he6 he7 g2B g3B g5B g6B g7B
   clear HO
   replace he0 := pw_cell_below BW.out he0
   replace he1 := pw_cell_below BW.out he1
   replace he2 := pw_cell_below BW.out he2
   replace he3 := pw_cell_below BW.out he3
   replace he4 := pw_cell_below BW.out he4
   replace he5 := pw_cell_below BW.out he5
   replace he6 := pw_cell_below BW.out he6
   replace he7 := pw_cell_below BW.out he7
   have GB := Lib.hid (And.intro g2B (And.intro g3B (And.intro g5B (And.intro g6B g7B))))
   clear g2B g3B g5B g6B g7B l2B l3B l5B l6B l7B hlt HN
   go_upto_region 8 with ((with_reducible refine gate_dst (N := 7) rfl ?_); refine box_event ?hg (N := 7) ?hd (cs := #[.int .i64 0, .int .i64 0, .slice none 0 0, .slice none 0 0, .int .i64 0, .slice none 0 0, .slice none 0 0, .slice none 0 0]) (t := 107) ?hr ?_; (case hd => rfl); (case hg => rfl); (case hr => first | (go_simp; done) | (go_simp; rfl)); intro gy hgy w6 hbx hb_; have HY : Hid (w6.heap[gy]? = some (.cells #[.int .i64 0, .int .i64 0, .slice none 0 0, .slice none 0 0, .int .i64 0, .slice none 0 0, .slice none 0 0, .slice none 0 0] 107 (0, 0))) := Lib.hid hbx; have GY : Hid (w.heap.size ≤ gy) := Lib.hid (by rw [hgy]; exact BW.out.size); have HNE : Hid (gx ≠ gy) := Lib.hid (by rw [hgy]; exact Nat.ne_of_lt (blk_lt BX.out)); have BR := Lib.hid (below_step BW.out hb_); have HX := Lib.hid (blk_below BX.out hb_); clear hgy hbx hb_ BX BW; obtain ⟨⟨z0, z1, z2, z3, z4, z5, z6, z7⟩, q0, q1, q2, q3, q4, q5, q6, q7⟩ := cells8 HY.out)
   have N_ : Hid (NB w gx gy #[.int .i64 o.f0, .int .i64 o.f1, .slice A2 o.f2.length a2, .slice A3 o.f3.length a3, .int .i64 o.f4.f0, .slice A5 o.f4.f1.length a5, .slice A6 o.f4.f2.length a6, .slice A7 o.f4.f3.length a7] #[.int .i64 o.f0, .int .i64 o.f1, .slice B2 o.f2.length b2, .slice B3 o.f3.length b3, .int .i64 o.f4.f0, .slice B5 o.f4.f1.length b5, .slice B6 o.f4.f2.length b6, .slice B7 o.f4.f3.length b7] 107 ((((((((w6.setCell ⟨gy, 0, none⟩ (.int .i64 o.f0)).setCell ⟨gy, 1, none⟩ (.int .i64 o.f1)).setCell ⟨gy, 2, none⟩ (.slice B2 o.f2.length b2)).setCell ⟨gy, 3, none⟩ (.slice B3 o.f3.length b3)).setCell ⟨gy, 4, none⟩ (.int .i64 o.f4.f0)).setCell ⟨gy, 5, none⟩ (.slice B5 o.f4.f1.length b5)).setCell ⟨gy, 6, none⟩ (.slice B6 o.f4.f2.length b6)).setCell ⟨gy, 7, none⟩ (.slice B7 o.f4.f3.length b7))) := Lib.hid ⟨(blk_far (blk_far (blk_far (blk_far (blk_far (blk_far (blk_far (blk_far HX.out HNE.out _) HNE.out _) HNE.out _) HNE.out _) HNE.out _) HNE.out _) HNE.out _) HNE.out _), set107 _ _ _ _ _ _ _ _ HY.out, (below_set (below_set (below_set (below_set (below_set (below_set (below_set (below_set BR.out GY.out) GY.out) GY.out) GY.out) GY.out) GY.out) GY.out) GY.out)⟩
   generalize ((((((((w6.setCell ⟨gy, 0, none⟩ (.int .i64 o.f0)).setCell ⟨gy, 1, none⟩ (.int .i64 o.f1)).setCell ⟨gy, 2, none⟩ (.slice B2 o.f2.length b2)).setCell ⟨gy, 3, none⟩ (.slice B3 o.f3.length b3)).setCell ⟨gy, 4, none⟩ (.int .i64 o.f4.f0)).setCell ⟨gy, 5, none⟩ (.slice B5 o.f4.f1.length b5)).setCell ⟨gy, 6, none⟩ (.slice B6 o.f4.f2.length b6)).setCell ⟨gy, 7, none⟩ (.slice B7 o.f4.f3.length b7)) = W7 at N_ ⊢
   clear HY BR HX z0 z1 z2 z3 z4 z5 z6 z7 q0 q1 q2 q3 q4 q5 q6 q7 he0 he1 he2 he3 he4 he5 he6 he7
   obtain ⟨⟨x0, x1, x2, x3, x4, x5, x6, x7⟩, _⟩ := cells8 N_.out.1
   obtain ⟨⟨y0, y1, y2, y3, y4, y5, y6, y7⟩, _⟩ := cells8 N_.out.2.1
   go_wp2_with (first | (go_at_call 96; refine (sets_same o.f2 A2 B2 a2 b2 _ (Kd.C_below GA.out.1 N_.out.2.2) (Kd.C_below GB.out.1 N_.out.2.2)).mono ?_; rintro e w8 ⟨rfl, hb_⟩; have n_ := Lib.hid (N_.out.step hb_); clear N_ hb_; have N_ := n_; clear n_; obtain ⟨⟨x0, x1, x2, x3, x4, x5, x6, x7⟩, _⟩ := cells8 N_.out.1; obtain ⟨⟨y0, y1, y2, y3, y4, y5, y6, y7⟩, _⟩ := cells8 N_.out.2.1) | (go_at_call 97; refine (edits_same o.f3 A3 B3 a3 b3 _ (Kd.C_below GA.out.2.1 N_.out.2.2) (Kd.C_below GB.out.2.1 N_.out.2.2)).mono ?_; rintro e w9 ⟨rfl, hb_⟩; have n_ := Lib.hid (N_.out.step hb_); clear N_ hb_; have N_ := n_; clear n_; obtain ⟨⟨x0, x1, x2, x3, x4, x5, x6, x7⟩, _⟩ := cells8 N_.out.1; obtain ⟨⟨y0, y1, y2, y3, y4, y5, y6, y7⟩, _⟩ := cells8 N_.out.2.1) | (go_at_call 78; refine (same_same o.f4.f0 o.f4.f1 o.f4.f2 o.f4.f3 A5 A6 A7 B5 B6 B7 a5 a6 a7 b5 b6 b7 _ (Kd.C_below GA.out.2.2.1 N_.out.2.2) (Kd.C_below GA.out.2.2.2.1 N_.out.2.2) (Kd.C_below GA.out.2.2.2.2 N_.out.2.2) (Kd.C_below GB.out.2.2.1 N_.out.2.2) (Kd.C_below GB.out.2.2.2.1 N_.out.2.2) (Kd.C_below GB.out.2.2.2.2 N_.out.2.2)).mono ?_; rintro e w10 ⟨rfl, hb_⟩; have n_ := Lib.hid (N_.out.step hb_); clear N_ hb_; have N_ := n_; clear n_; obtain ⟨⟨x0, x1, x2, x3, x4, x5, x6, x7⟩, _⟩ := cells8 N_.out.1; obtain ⟨⟨y0, y1, y2, y3, y4, y5, y6, y7⟩, _⟩ := cells8 N_.out.2.1))
   go_roundw
   case rel => exact ⟨n + 1, HLT.out, by rw [wrap_succ HLT.out LL.out], Lib.hid N_.out.2.2⟩
   case measure => rw [wrap_succ HLT.out LL.out]; have := HLT.out; simp [intOf]; omega
  ·obtain rfl : n = l.length := by omega
   have hd : decide ((l.length : Int) < (l.length : Int)) = false := decide_eq_false (by omega)
   go_wp2_with fail
   go_ret
   exact ⟨rfl, B_.out⟩
set_option maxHeartbeats 8000000 in
set_option maxRecDepth 100000 in
theorem patch_same (s n y : Int) (l : List S107) (f : ByteArray) (A B : Option Addr) (c d : Nat) (w : World) (g : k107.C w A l.length l) (h : k107.C w B l.length l) :
  Calls Try.prog 41 #[.agg #[.int .u32 s, .int .i64 n, .int .i64 y, .slice A l.length c, .string f], .agg #[.int .u32 s, .int .i64 n, .int .i64 y, .slice B l.length d, .string f]] w fun e w' => e = .returned (.bool true) ∧ Below w.heap.size w w' := by
 have G := Lib.hid g
 have H := Lib.hid h
 clear g h
 have hu61 := Try.underlying61
 go_enter Try.func41, Try.ntmps41
 go_upto_region 1 with (first | ((with_reducible refine gate_dst (N := 2) rfl ?_); refine box_event ?hg (N := 2) ?hd (cs := #[.int .u32 s, .int .i64 n, .int .i64 y, .slice A l.length c, .string f]) (t := 61) ?hr ?_; (case hd => rfl); (case hg => rfl); (case hr => first | (go_simp; done) | (go_simp; rfl)); intro gx hgx w1 hbx hb_; have HX : Hid (w1.heap[gx]? = some (.cells #[.int .u32 s, .int .i64 n, .int .i64 y, .slice A l.length c, .string f] 61 (0, 0))) := Lib.hid hbx; have B1 := Lib.hid (below_step (Below.refl w.heap.size w) hb_); clear hgx hbx hb_) | ((with_reducible refine gate_dst (N := 3) rfl ?_); refine box_event ?hg (N := 3) ?hd (cs := #[.int .u32 s, .int .i64 n, .int .i64 y, .slice B l.length d, .string f]) (t := 61) ?hr ?_; (case hd => rfl); (case hg => rfl); (case hr => first | (go_simp; done) | (go_simp; rfl)); intro gy hgy w2 hbx hb_; have N_ : Hid (NB w gx gy #[.int .u32 s, .int .i64 n, .int .i64 y, .slice A l.length c, .string f] #[.int .u32 s, .int .i64 n, .int .i64 y, .slice B l.length d, .string f] 61 w2) := Lib.hid ⟨blk_below HX.out hb_, hbx, below_step B1.out hb_⟩; clear hgy hbx hb_ HX B1))
 have x0 := N_.out.1
 obtain ⟨a0, a1, a2, a3, a4⟩ := cellsQ61 x0
 obtain ⟨b0, b1, b2, b3, b4⟩ := cellsQ61 N_.out.2.1
 clear x0
 go_wp2_with (go_at_call 69; refine (ops_same l A B c d _ (Kd.C_below G.out N_.out.2.2) (Kd.C_below H.out N_.out.2.2)).mono ?_; rintro e w5 ⟨rfl, hb_⟩)
 go_ret
 exact ⟨rfl, below_step N_.out.2.2 hb_⟩
instance dec127 : DecidableEq S127 := fun a b => decidable_of_iff (a.f0 = b.f0 ∧ a.f1 = b.f1 ∧ a.f2 = b.f2 ∧ a.f3 = b.f3) (by cases a; cases b; simp)
instance dec138 : DecidableEq S138 := fun a b => decidable_of_iff (a.f0 = b.f0 ∧ a.f1 = b.f1) (by cases a; cases b; simp)
instance dec105 : DecidableEq S105 := fun a b => decidable_of_iff (a.f0 = b.f0 ∧ a.f1 = b.f1 ∧ a.f2 = b.f2 ∧ a.f3 = b.f3) (by cases a; cases b; simp)
instance dec107 : DecidableEq S107 := fun a b => decidable_of_iff (a.f0 = b.f0 ∧ a.f1 = b.f1 ∧ a.f2 = b.f2 ∧ a.f3 = b.f3 ∧ a.f4 = b.f4) (by cases a; cases b; simp)
def dioramaref24_Same.f (k : Nat) (a0_0 : Int) (a0_1 : Int) (a0_2 : Int) (l0_3 : List (S107)) (a0_4 : ByteArray) (a1_0 : Int) (a1_1 : Int) (a1_2 : Int) (l1_3 : List (S107)) (a1_4 : ByteArray) : Option (Bool) :=
 if a0_0 = a1_0 ∧ a0_1 = a1_1 ∧ a0_2 = a1_2 ∧ l0_3 = l1_3 ∧ a0_4 = a1_4 then some true else none
theorem dioramaref24_Same.calls (k : Nat) (a0_0 : Int) (a0_1 : Int) (a0_2 : Int) (A0_3 : Option Addr) (c0_3 : Nat) (l0_3 : List (S107)) (a0_4 : ByteArray) (a1_0 : Int) (a1_1 : Int) (a1_2 : Int) (A1_3 : Option Addr) (c1_3 : Nat) (l1_3 : List (S107)) (a1_4 : ByteArray) (r : Bool) (w : World) (hr0_3 : Kd.C k107 w A0_3 l0_3.length l0_3) (hc0_3 : l0_3.length ≤ c0_3) (hr1_3 : Kd.C k107 w A1_3 l1_3.length l1_3) (hc1_3 : l1_3.length ≤ c1_3) (h : dioramaref24_Same.f k a0_0 a0_1 a0_2 l0_3 a0_4 a1_0 a1_1 a1_2 l1_3 a1_4 = some r) :
  Calls Try.prog 41 #[.agg #[.int .u32 a0_0, .int .i64 a0_1, .int .i64 a0_2, .slice A0_3 l0_3.length c0_3, .string a0_4], .agg #[.int .u32 a1_0, .int .i64 a1_1, .int .i64 a1_2, .slice A1_3 l1_3.length c1_3, .string a1_4]] w fun e w' => e = .returned (.bool r) ∧ Below w.heap.size w w' := by
 unfold dioramaref24_Same.f at h
 split at h
 ·rename_i he
  obtain ⟨rfl, rfl, rfl, rfl, rfl⟩ := he
  cases h
  exact patch_same _ _ _ _ _ _ _ _ _ _ hr0_3 hr1_3
 ·cases h
end Go.Proofs.Ytdjpelcdijpihaa.PrintF
