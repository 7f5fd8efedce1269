/- A part of the proof of the claim: what it uses of the text HandRefD. -/
import Derived.Test.YtdjpelcdijpihaaXHandRefC
namespace Go.Proofs.Ytdjpelcdijpihaa.PrintF
open Go.RowKit Go.Proofs.Ytdjpelcdijpihaa.Print Go.Proofs.YtdjpelcdijpihaaW.PrintWords Go.Proofs.YtdjpelcdijpihaaW.PrintLast Go.Lib
set_option linter.unusedVariables false
set_option linter.unusedSimpArgs false
set_option maxHeartbeats 4000000 in
set_option maxRecDepth 100000 in
theorem diff_k (k : Int) (A1 A2 A3 : Option Addr) (n1 n2 n3 c1 c2 c3 : Nat) (w : World) (h : k ≠ 0) :
  Calls Try.prog 111 #[.agg #[.int .i64 k, .slice A1 n1 c1, .slice A2 n2 c2, .slice A3 n3 c3], .agg #[.int .i64 0, .slice none 0 0, .slice none 0 0, .slice none 0 0]] w fun e w' => ∃ A c, e = .returned (.tuple #[.slice A 0 c, .bool false]) ∧ Below w.heap.size w w' := by
 have t1 : (k != 0) = true := bne_iff_ne.mpr h
 clear h
 go_enter Try.func111, Try.ntmps111
 go_wp2_with fail
 go_ret2
 exact ⟨_, _, rfl, (by repeat (first | exact Below.refl _ _ | apply below_alloc | apply below_drew1 | apply pw_below_drewN))⟩
set_option maxHeartbeats 4000000 in
set_option maxRecDepth 100000 in
theorem diff_1 (k : Int) (A1 A2 A3 : Option Addr) (n1 n2 n3 c1 c2 c3 : Nat) (w : World) (h0 : k = 0) (h : n1 ≠ 0) :
  Calls Try.prog 111 #[.agg #[.int .i64 k, .slice A1 n1 c1, .slice A2 n2 c2, .slice A3 n3 c3], .agg #[.int .i64 0, .slice none 0 0, .slice none 0 0, .slice none 0 0]] w fun e w' => ∃ A c, e = .returned (.tuple #[.slice A 0 c, .bool false]) ∧ Below w.heap.size w w' := by
 have t1 : (k != 0) = false := bne_eq_false_iff_eq.mpr h0
 have t2 : ((n1 : Int) != 0) = true := bne_iff_ne.mpr (by omega)
 clear h h0
 go_enter Try.func111, Try.ntmps111
 go_wp2_with fail
 go_ret2
 exact ⟨_, _, rfl, (by repeat (first | exact Below.refl _ _ | apply below_alloc | apply below_drew1 | apply pw_below_drewN))⟩
set_option maxHeartbeats 4000000 in
set_option maxRecDepth 100000 in
theorem diff_2 (k : Int) (A1 A2 A3 : Option Addr) (n1 n2 n3 c1 c2 c3 : Nat) (w : World) (h0 : k = 0) (h1 : n1 = 0) (h : n2 ≠ 0) :
  Calls Try.prog 111 #[.agg #[.int .i64 k, .slice A1 n1 c1, .slice A2 n2 c2, .slice A3 n3 c3], .agg #[.int .i64 0, .slice none 0 0, .slice none 0 0, .slice none 0 0]] w fun e w' => ∃ A c, e = .returned (.tuple #[.slice A 0 c, .bool false]) ∧ Below w.heap.size w w' := by
 subst h1
 have t1 : (k != 0) = false := bne_eq_false_iff_eq.mpr h0
 have t2 : ((n2 : Int) != 0) = true := bne_iff_ne.mpr (by omega)
 clear h h0
 go_enter Try.func111, Try.ntmps111
 go_wp2_with fail
 go_ret2
 exact ⟨_, _, rfl, (by repeat (first | exact Below.refl _ _ | apply below_alloc | apply below_drew1 | apply pw_below_drewN))⟩
set_option maxHeartbeats 4000000 in
set_option maxRecDepth 100000 in
theorem diff_z (k : Int) (A1 A2 A3 : Option Addr) (n1 n2 n3 c1 c2 c3 : Nat) (w : World) (h0 : k = 0) (h1 : n1 = 0) (h2 : n2 = 0) :
  Calls Try.prog 111 #[.agg #[.int .i64 k, .slice A1 n1 c1, .slice A2 n2 c2, .slice A3 n3 c3], .agg #[.int .i64 0, .slice none 0 0, .slice none 0 0, .slice none 0 0]] w fun e w' => ∃ A c, e = .returned (.tuple #[.slice A 0 c, .bool true]) ∧ Below w.heap.size w w' := by
 subst h1 h2
 have t1 : (k != 0) = false := bne_eq_false_iff_eq.mpr h0
 clear h0
 go_enter Try.func111, Try.ntmps111
 go_wp2_with fail
 go_loopw [6, 7] (fun o i wr => i = .int .i64 0 ∧ (∃ A c, o = .slice A 0 c) ∧ wr.cell? ⟨w.heap.size, 1, none⟩ = some (.slice A1 0 c1) ∧ wr.cell? ⟨w.heap.size, 2, none⟩ = some (.slice A2 0 c2) ∧ Below w.heap.size w wr) (fun _ _ _ => 0)
 case atStart => exact ⟨rfl, ⟨_, _, rfl⟩, (blk_cell (blk_below (heap_alloc_new w _) (by repeat (first | exact Below.refl _ _ | apply below_alloc | apply below_drew1 | apply pw_below_drewN))) 1).trans rfl, (blk_cell (blk_below (heap_alloc_new w _) (by repeat (first | exact Below.refl _ _ | apply below_alloc | apply below_drew1 | apply pw_below_drewN))) 2).trans rfl, (by repeat (first | exact Below.refl _ _ | apply below_alloc | apply below_drew1 | apply pw_below_drewN))⟩
 case round =>
  obtain ⟨rfl, ⟨Ao, co, rfl⟩, z1, z2, HB⟩ := hrel
  go_wp2_with fail
  go_loopw [6, 8] (fun o i wr => i = .int .i64 0 ∧ (∃ A c, o = .slice A 0 c) ∧ wr.cell? ⟨w.heap.size, 2, none⟩ = some (.slice A2 0 c2) ∧ Below w.heap.size w wr) (fun _ _ _ => 0)
  case atStart => exact ⟨rfl, ⟨_, _, rfl⟩, z2, HB⟩
  case round =>
   obtain ⟨rfl, ⟨Ao, co, rfl⟩, z2, HB⟩ := hrel
   go_wp2_with fail
   go_ret2
   exact ⟨_, _, rfl, HB⟩
theorem diff_calls (k : Int) (A1 A2 A3 : Option Addr) (n1 n2 n3 c1 c2 c3 : Nat) (w : World) :
  Calls Try.prog 111 #[.agg #[.int .i64 k, .slice A1 n1 c1, .slice A2 n2 c2, .slice A3 n3 c3], .agg #[.int .i64 0, .slice none 0 0, .slice none 0 0, .slice none 0 0]] w fun e w' => ∃ A c, e = .returned (.tuple #[.slice A 0 c, .bool (decide (k = 0 ∧ n1 = 0 ∧ n2 = 0))]) ∧ Below w.heap.size w w' := by
 by_cases h0 : k = 0
 ·by_cases h1 : n1 = 0
  ·by_cases h2 : n2 = 0
   ·rw [decide_eq_true ⟨h0, h1, h2⟩]; exact diff_z k A1 A2 A3 n1 n2 n3 c1 c2 c3 w h0 h1 h2
   ·rw [decide_eq_false (fun h => h2 h.2.2)]; exact diff_2 k A1 A2 A3 n1 n2 n3 c1 c2 c3 w h0 h1 h2
  ·rw [decide_eq_false (fun h => h1 h.2.1)]; exact diff_1 k A1 A2 A3 n1 n2 n3 c1 c2 c3 w h0 h1
 ·rw [decide_eq_false (fun h => h0 h.1)]; exact diff_k k A1 A2 A3 n1 n2 n3 c1 c2 c3 w h0
set_option maxHeartbeats 4000000 in
set_option maxRecDepth 100000 in
theorem own_calls (k : Int) (A1 A2 A3 : Option Addr) (n1 n2 n3 c1 c2 c3 : Nat) (w : World) :
  Calls Try.prog 104 #[.agg #[.int .i64 k, .slice A1 n1 c1, .slice A2 n2 c2, .slice A3 n3 c3], .agg #[.int .i64 0, .slice none 0 0, .slice none 0 0, .slice none 0 0]] w fun e w' => e = .returned (.bool (decide (k = 0 ∧ n1 = 0 ∧ n2 = 0))) ∧ Below w.heap.size w w' := by
 generalize hd : decide (k = 0 ∧ n1 = 0 ∧ n2 = 0) = d
 go_enter Try.func104, Try.ntmps104
 cases d
 ·go_wp2_with (go_at_call 111; refine (diff_calls k A1 A2 A3 n1 n2 n3 c1 c2 c3 _).mono ?_; rw [hd]; rintro e w1 ⟨Ad, cd, rfl, hb⟩)
  go_ret
  exact ⟨rfl, below_step (by repeat (first | exact Below.refl _ _ | apply below_alloc | apply below_drew1 | apply pw_below_drewN)) hb⟩
 ·go_wp2_with (go_at_call 111; refine (diff_calls k A1 A2 A3 n1 n2 n3 c1 c2 c3 _).mono ?_; rw [hd]; rintro e w1 ⟨Ad, cd, rfl, hb⟩)
  go_ret
  exact ⟨rfl, below_step (by repeat (first | exact Below.refl _ _ | apply below_alloc | apply below_drew1 | apply pw_below_drewN)) hb⟩
set_option maxHeartbeats 4000000 in
set_option maxRecDepth 100000 in
theorem same_false (k : Int) (A1 A2 A3 : Option Addr) (n1 n2 n3 c1 c2 c3 : Nat) (w : World) (hd : decide (k = 0 ∧ n1 = 0 ∧ n2 = 0) = false) :
  Calls Try.prog 78 #[.agg #[.int .i64 k, .slice A1 n1 c1, .slice A2 n2 c2, .slice A3 n3 c3], .agg #[.int .i64 0, .slice none 0 0, .slice none 0 0, .slice none 0 0]] w fun e w' => e = .returned (.bool false) ∧ Below w.heap.size w w' := by
 go_enter Try.func78, Try.ntmps78
 go_wp2_with (go_at_call 104; refine (own_calls k A1 A2 A3 n1 n2 n3 c1 c2 c3 _).mono ?_; rw [hd]; rintro e w1 ⟨rfl, hb⟩; have bx := blk_below (blk_below (heap_alloc_new w (.cells #[.int .i64 k, .slice A1 n1 c1, .slice A2 n2 c2, .slice A3 n3 c3] 105)) (below_alloc (Below.refl _ _) (.cells #[.int .i64 0, .slice none 0 0, .slice none 0 0, .slice none 0 0] 105))) hb; have by_ := blk_below (heap_alloc_new (w.alloc (.cells #[.int .i64 k, .slice A1 n1 c1, .slice A2 n2 c2, .slice A3 n3 c3] 105)) (.cells #[.int .i64 0, .slice none 0 0, .slice none 0 0, .slice none 0 0] 105)) hb; have HB : Below w.heap.size w w1 := below_step (by repeat (first | exact Below.refl _ _ | apply below_alloc | apply below_drew1 | apply pw_below_drewN)) hb; have z3 : w1.cell? ⟨w.heap.size, 3, none⟩ = some (.slice A3 n3 c3) := (blk_cell bx 3).trans rfl; have y3 : w1.cell? ⟨w.heap.size + 1, 3, none⟩ = some (.slice none 0 0) := by have h_ := (blk_cell by_ 3).trans rfl; simpa using h_)
 go_ret
 exact ⟨rfl, HB⟩
set_option maxHeartbeats 4000000 in
set_option maxRecDepth 100000 in
theorem same_kids (k : Int) (A1 A2 A3 : Option Addr) (n1 n2 n3 c1 c2 c3 : Nat) (w : World) (hd : decide (k = 0 ∧ n1 = 0 ∧ n2 = 0) = true) (h3 : n3 ≠ 0) :
  Calls Try.prog 78 #[.agg #[.int .i64 k, .slice A1 n1 c1, .slice A2 n2 c2, .slice A3 n3 c3], .agg #[.int .i64 0, .slice none 0 0, .slice none 0 0, .slice none 0 0]] w fun e w' => e = .returned (.bool false) ∧ Below w.heap.size w w' := by
 have t3 : ((n3 : Int) != 0) = true := bne_iff_ne.mpr (by omega)
 clear h3
 go_enter Try.func78, Try.ntmps78
 go_wp2_with (go_at_call 104; refine (own_calls k A1 A2 A3 n1 n2 n3 c1 c2 c3 _).mono ?_; rw [hd]; rintro e w1 ⟨rfl, hb⟩; have bx := blk_below (blk_below (heap_alloc_new w (.cells #[.int .i64 k, .slice A1 n1 c1, .slice A2 n2 c2, .slice A3 n3 c3] 105)) (below_alloc (Below.refl _ _) (.cells #[.int .i64 0, .slice none 0 0, .slice none 0 0, .slice none 0 0] 105))) hb; have by_ := blk_below (heap_alloc_new (w.alloc (.cells #[.int .i64 k, .slice A1 n1 c1, .slice A2 n2 c2, .slice A3 n3 c3] 105)) (.cells #[.int .i64 0, .slice none 0 0, .slice none 0 0, .slice none 0 0] 105)) hb; have HB : Below w.heap.size w w1 := below_step (by repeat (first | exact Below.refl _ _ | apply below_alloc | apply below_drew1 | apply pw_below_drewN)) hb; have z3 : w1.cell? ⟨w.heap.size, 3, none⟩ = some (.slice A3 n3 c3) := (blk_cell bx 3).trans rfl; have y3 : w1.cell? ⟨w.heap.size + 1, 3, none⟩ = some (.slice none 0 0) := by have h_ := (blk_cell by_ 3).trans rfl; simpa using h_)
 go_ret
 exact ⟨rfl, HB⟩
set_option maxHeartbeats 4000000 in
set_option maxRecDepth 100000 in
theorem same_true (k : Int) (A1 A2 A3 : Option Addr) (n1 n2 n3 c1 c2 c3 : Nat) (w : World) (hd : decide (k = 0 ∧ n1 = 0 ∧ n2 = 0) = true) (h3 : n3 = 0) :
  Calls Try.prog 78 #[.agg #[.int .i64 k, .slice A1 n1 c1, .slice A2 n2 c2, .slice A3 n3 c3], .agg #[.int .i64 0, .slice none 0 0, .slice none 0 0, .slice none 0 0]] w fun e w' => e = .returned (.bool true) ∧ Below w.heap.size w w' := by
 subst h3
 go_enter Try.func78, Try.ntmps78
 go_wp2_with (go_at_call 104; refine (own_calls k A1 A2 A3 n1 n2 0 c1 c2 c3 _).mono ?_; rw [hd]; rintro e w1 ⟨rfl, hb⟩; have bx := blk_below (blk_below (heap_alloc_new w (.cells #[.int .i64 k, .slice A1 n1 c1, .slice A2 n2 c2, .slice A3 0 c3] 105)) (below_alloc (Below.refl _ _) (.cells #[.int .i64 0, .slice none 0 0, .slice none 0 0, .slice none 0 0] 105))) hb; have by_ := blk_below (heap_alloc_new (w.alloc (.cells #[.int .i64 k, .slice A1 n1 c1, .slice A2 n2 c2, .slice A3 0 c3] 105)) (.cells #[.int .i64 0, .slice none 0 0, .slice none 0 0, .slice none 0 0] 105)) hb; have HB : Below w.heap.size w w1 := below_step (by repeat (first | exact Below.refl _ _ | apply below_alloc | apply below_drew1 | apply pw_below_drewN)) hb; have z3 : w1.cell? ⟨w.heap.size, 3, none⟩ = some (.slice A3 0 c3) := (blk_cell bx 3).trans rfl; have y3 : w1.cell? ⟨w.heap.size + 1, 3, none⟩ = some (.slice none 0 0) := by have h_ := (blk_cell by_ 3).trans rfl; simpa using h_)
 go_loopw [4, 5] (fun b i wr => i = .int .i64 0 ∧ wr = w1) (fun _ _ _ => 0)
 case atStart => exact ⟨rfl, rfl⟩
 case round =>
  obtain ⟨rfl, rfl⟩ := hrel
  go_wp2_with fail
  go_ret
  exact ⟨rfl, HB⟩
def zeroN (x : S105) : Bool := decide (x.f0 = 0 ∧ x.f1.length = 0 ∧ x.f2.length = 0) && decide (x.f3.length = 0)
theorem same_calls (x : S105) (A1 A2 A3 : Option Addr) (c1 c2 c3 : Nat) (w : World) :
  Calls Try.prog 78 #[.agg #[.int .i64 x.f0, .slice A1 x.f1.length c1, .slice A2 x.f2.length c2, .slice A3 x.f3.length c3], .agg #[.int .i64 0, .slice none 0 0, .slice none 0 0, .slice none 0 0]] w fun e w' => e = .returned (.bool (zeroN x)) ∧ Below w.heap.size w w' := by
 unfold zeroN
 cases hd : decide (x.f0 = 0 ∧ x.f1.length = 0 ∧ x.f2.length = 0) with
 | false => exact same_false _ A1 A2 A3 _ _ _ c1 c2 c3 w hd
 | true =>
  by_cases h3 : x.f3.length = 0
  ·rw [decide_eq_true h3]; exact same_true _ A1 A2 A3 _ _ _ c1 c2 c3 w hd h3
  ·rw [decide_eq_false h3]; exact same_kids _ A1 A2 A3 _ _ _ c1 c2 c3 w hd h3
end Go.Proofs.Ytdjpelcdijpihaa.PrintF
