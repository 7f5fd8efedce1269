/- A part of the proof of the claim: what it uses of the text PrintF1 (printed by xprint.py). -/
import Derived.Test.YtdjpelcdijpihaaVZ
import Derived.Test.YtdjpelcdijpihaaVPrintF0
namespace Go.Proofs.Ytdjpelcdijpihaa.PrintF
open Go.Proofs.Ytdjpelcdijpihaa.Print
open Go.RowKit Go.Proofs.YtdjpelcdijpihaaW.PrintWords Go.Proofs.YtdjpelcdijpihaaW.PrintLast Go.Proofs.YtdjpelcdijpihaaW.PrintMore
attribute [local go_sem] max2_int min2_int max_two min_two
set_option linter.unusedVariables false
set_option linter.unusedSimpArgs false
def stringslite_HasPrefix.f (a0 : ByteArray) (a1 : ByteArray) : Option (Bool) := if (a0.size : Int) ≥ (a1.size : Int) then (if 0 ≤ (a1.size : Int) then (if (a1.size : Int) ≤ (a0.size : Int) then (some ((a0.extract 0 ((a1.size : Int) : Int).toNat).toList == a1.toList)) else (none)) else (none)) else (some false)
set_option maxHeartbeats 8000000 in
set_option maxRecDepth 100000 in
theorem stringslite_HasPrefix.calls (a0 : ByteArray) (a1 : ByteArray) (r : Bool) (w : World) (h : stringslite_HasPrefix.f a0 a1 = some r) :
  Calls Try.prog 99 #[.string a0, .string a1] w fun e w' => e = .returned (.bool r) ∧ Drawn0 w w' := by
 have H : (if (a0.size : Int) ≥ (a1.size : Int) then (if 0 ≤ (a1.size : Int) then (if (a1.size : Int) ≤ (a0.size : Int) then (some ((a0.extract 0 ((a1.size : Int) : Int).toNat).toList == a1.toList)) else (none)) else (none)) else (some false)) = some r := h
 clear h
 by_cases c3 : (a0.size : Int) ≥ (a1.size : Int)
 ·rw [if_pos c3] at H
  have c3b0 : decide ((a1.size : Int) ≤ (a0.size : Int)) = true := decide_eq_true c3
  have c3b1 : decide (a1.size ≤ a0.size) = true := decide_eq_true (Int.ofNat_le.mp c3)
  clear c3
  by_cases c4 : 0 ≤ (a1.size : Int)
  ·rw [if_pos c4] at H
   have c4b0 := eq_true c4
   have c4b1 : decide (0 ≤ (a1.size : Int)) = true := decide_eq_true c4
   clear c4
   by_cases c5 : (a1.size : Int) ≤ (a0.size : Int)
   ·rw [if_pos c5] at H
    have c5b0 := eq_true c5
    have c5b1 : decide ((a1.size : Int) ≤ (a0.size : Int)) = true := decide_eq_true c5
    clear c5
    obtain rfl := Option.some.inj H
    go_enter Try.func99, Try.ntmps99
    go_wp2
    go_ret
    exact ⟨by first | rfl | (simp; done) | (simp [*]; done), by repeat (first | exact Drawn0.refl _ | apply Drawn0.step)⟩
   ·rw [if_neg c5] at H
    exact absurd H (by simp)
  ·rw [if_neg c4] at H
   exact absurd H (by simp)
 ·rw [if_neg c3] at H
  have c3b0 : decide ((a1.size : Int) ≤ (a0.size : Int)) = false := decide_eq_false c3
  have c3b1 : decide (a1.size ≤ a0.size) = false := decide_eq_false (fun h => c3 (Int.ofNat_le.mpr h))
  clear c3
  obtain rfl := Option.some.inj H
  go_enter Try.func99, Try.ntmps99
  go_wp2
  go_ret
  exact ⟨by first | rfl | (simp; done) | (simp [*]; done), by repeat (first | exact Drawn0.refl _ | apply Drawn0.step)⟩
def stringslite_CutPrefix.f (a0 : ByteArray) (a1 : ByteArray) : Option (ByteArray × Bool) := (stringslite_HasPrefix.f a0 a1).bind fun t101 => (if t101 = true then (if 0 ≤ (a1.size : Int) then (if (a1.size : Int) ≤ (a0.size : Int) then (some (a0.extract ((a1.size : Int) : Int).toNat a0.size, true)) else (none)) else (none)) else (some (a0, false)))
set_option maxHeartbeats 8000000 in
set_option maxRecDepth 100000 in
theorem stringslite_CutPrefix.calls (a0 : ByteArray) (a1 : ByteArray) (r1 : ByteArray) (r2 : Bool) (w : World) (h : stringslite_CutPrefix.f a0 a1 = some (r1, r2)) :
  Calls Try.prog 72 #[.string a0, .string a1] w fun e w' => e = .returned (.tuple #[.string r1, .bool r2]) ∧ Drawn0 w w' := by
 have H : ((stringslite_HasPrefix.f a0 a1).bind fun t101 => (if t101 = true then (if 0 ≤ (a1.size : Int) then (if (a1.size : Int) ≤ (a0.size : Int) then (some (a0.extract ((a1.size : Int) : Int).toNat a0.size, true)) else (none)) else (none)) else (some (a0, false)))) = some (r1, r2) := h
 clear h
 replace H := Option.bind_eq_some_iff.mp H
 obtain ⟨t101, A30, H⟩ := H
 replace H : (if t101 = true then (if 0 ≤ (a1.size : Int) then (if (a1.size : Int) ≤ (a0.size : Int) then (some (a0.extract ((a1.size : Int) : Int).toNat a0.size, true)) else (none)) else (none)) else (some (a0, false))) = some (r1, r2) := H
 have A3 := Aside0.mk A30
 clear A30
 by_cases c4 : t101 = true
 ·subst c4
  have H1 : (if 0 ≤ (a1.size : Int) then (if (a1.size : Int) ≤ (a0.size : Int) then (some (a0.extract ((a1.size : Int) : Int).toNat a0.size, true)) else (none)) else (none)) = some (r1, r2) := by rw [if_pos rfl] at H; exact H
  clear H
  have H := H1
  clear H1
  by_cases c5 : 0 ≤ (a1.size : Int)
  ·rw [if_pos c5] at H
   have c5b0 := eq_true c5
   have c5b1 : decide (0 ≤ (a1.size : Int)) = true := decide_eq_true c5
   clear c5
   by_cases c6 : (a1.size : Int) ≤ (a0.size : Int)
   ·rw [if_pos c6] at H
    have c6b0 := eq_true c6
    have c6b1 : decide ((a1.size : Int) ≤ (a0.size : Int)) = true := decide_eq_true c6
    clear c6
    simp only [Option.some.injEq, Prod.mk.injEq] at H
    obtain ⟨rfl, rfl⟩ := H
    go_enter Try.func72, Try.ntmps72
    go_wp2_with (first | ((with_reducible refine gate_callee (f := 99) rfl ?_); refine goesL_ (some 8) rfl rfl Try.func99 (by kernel_rfl) rfl #[.string a0, .string a1] rfl zm ?_; (with_reducible refine (stringslite_HasPrefix.calls a0 a1 true _ A3.out).mono ?_); rintro e w' ⟨rfl, ⟨nd, rfl⟩⟩; refine ⟨_, rfl, ?_⟩))
    go_ret2
    exact ⟨by first | rfl | (simp; done) | (simp [*]; done), by repeat (first | exact Drawn0.refl _ | apply Drawn0.step)⟩
   ·rw [if_neg c6] at H
    exact absurd H (by simp)
  ·rw [if_neg c5] at H
   exact absurd H (by simp)
 ·replace c4 := Bool.eq_false_iff.mpr c4
  subst c4
  have H1 : (some (a0, false)) = some (r1, r2) := by rw [if_neg (show ¬ (false = true) by decide)] at H; exact H
  clear H
  have H := H1
  clear H1
  simp only [Option.some.injEq, Prod.mk.injEq] at H
  obtain ⟨rfl, rfl⟩ := H
  go_enter Try.func72, Try.ntmps72
  go_wp2_with (first | ((with_reducible refine gate_callee (f := 99) rfl ?_); refine goesL_ (some 8) rfl rfl Try.func99 (by kernel_rfl) rfl #[.string a0, .string a1] rfl zm ?_; (with_reducible refine (stringslite_HasPrefix.calls a0 a1 false _ A3.out).mono ?_); rintro e w' ⟨rfl, ⟨nd, rfl⟩⟩; refine ⟨_, rfl, ?_⟩))
  go_ret2
  exact ⟨by first | rfl | (simp; done) | (simp [*]; done), by repeat (first | exact Drawn0.refl _ | apply Drawn0.step)⟩
def strings_CutPrefix.f (a0 : ByteArray) (a1 : ByteArray) : Option (ByteArray × Bool) := (stringslite_CutPrefix.f a0 a1).bind fun bt102 => (some (bt102.1, bt102.2))
set_option maxHeartbeats 8000000 in
set_option maxRecDepth 100000 in
theorem strings_CutPrefix.calls (a0 : ByteArray) (a1 : ByteArray) (r1 : ByteArray) (r2 : Bool) (w : World) (h : strings_CutPrefix.f a0 a1 = some (r1, r2)) :
  Calls Try.prog 49 #[.string a0, .string a1] w fun e w' => e = .returned (.tuple #[.string r1, .bool r2]) ∧ Drawn0 w w' := by
 have H : ((stringslite_CutPrefix.f a0 a1).bind fun bt102 => (some (bt102.1, bt102.2))) = some (r1, r2) := h
 clear h
 replace H := Option.bind_eq_some_iff.mp H
 obtain ⟨⟨t102, t103⟩, A30, H⟩ := H
 replace H : (some (t102, t103)) = some (r1, r2) := H
 have A3 := Aside0.mk A30
 clear A30
 simp only [Option.some.injEq, Prod.mk.injEq] at H
 obtain ⟨rfl, rfl⟩ := H
 go_enter Try.func49, Try.ntmps49
 go_wp2_with (first | ((with_reducible refine gate_callee (f := 72) rfl ?_); refine goesL_ (some 8) rfl rfl Try.func72 (by kernel_rfl) rfl #[.string a0, .string a1] rfl zm ?_; (with_reducible refine (stringslite_CutPrefix.calls a0 a1 t102 t103 _ A3.out).mono ?_); rintro e w' ⟨rfl, ⟨nd, rfl⟩⟩; refine ⟨_, rfl, ?_⟩))
 go_ret2
 exact ⟨by first | rfl | (simp; done) | (simp [*]; done), by repeat (first | exact Drawn0.refl _ | apply Drawn0.step)⟩
def IsS122 (w0 W : World) (g : Nat) (f0 : ByteArray) (f1 : Int) (f2 : Option Int) : Prop := W.heap[g]? = some (.cells #[.string f0, .int .i64 f1, errW f2] 122 (0, 0)) ∧ w0.heap.size ≤ g
theorem IsS122.grown {w0 W : World} {g : Nat} {f0 : ByteArray} {f1 : Int} {f2 : Option Int} {W1 : World} {row : Option Nat} (h : IsS122 w0 W g f0 f1 f2) (hw : W.grownBy W1 row) (hne : some g ≠ row) : IsS122 w0 W1 g f0 f1 f2 := by
 obtain ⟨hb, hg⟩ := h
 exact ⟨blk_grown hb hw hne, hg⟩
theorem IsS122.below {w0 W : World} {g : Nat} {f0 : ByteArray} {f1 : Int} {f2 : Option Int} {W1 : World} (h : IsS122 w0 W g f0 f1 f2) (hw : Below W.heap.size W W1) : IsS122 w0 W1 g f0 f1 f2 := h.grown (grown_of_below hw none) (by simp)
theorem IsS122.alloc {w0 W : World} {g : Nat} {f0 : ByteArray} {f1 : Int} {f2 : Option Int} (h : IsS122 w0 W g f0 f1 f2) (o : Obj) : IsS122 w0 (W.alloc o) g f0 f1 f2 := h.below (below_alloc (Below.refl _ _) o)
theorem IsS122.drewN {w0 W : World} {g : Nat} {f0 : ByteArray} {f1 : Int} {f2 : Option Int} (h : IsS122 w0 W g f0 f1 f2) (m : Nat) : IsS122 w0 (W.drewN m) g f0 f1 f2 := h
theorem IsS122.drew {w0 W : World} {g : Nat} {f0 : ByteArray} {f1 : Int} {f2 : Option Int} (h : IsS122 w0 W g f0 f1 f2) : IsS122 w0 W.drew g f0 f1 f2 := h
theorem IsS122.apart {w0 W : World} {g : Nat} {f0 : ByteArray} {f1 : Int} {f2 : Option Int} {α : Type} {d : Kd α} {e : Nat} {base : Nat} {ok : Nat → Prop} {v : Value} {xs : List α} (h : IsS122 w0 W g f0 f1 f2) (ho : d.R e W base ok v xs) (ht : ∀ q, q ∈ e :: d.E → q ≠ 122) : d.R e W base (fun k => ok k ∧ k ≠ g) v xs := by
 obtain ⟨hb, hg⟩ := h
 exact Kd.R_types ho hb ht
theorem IsS122.own_ne {w0 W : World} {g : Nat} {f0 : ByteArray} {f1 : Int} {f2 : Option Int} {α : Type} {d : Kd α} {e : Nat} {base : Nat} {ok : Nat → Prop} {v : Value} {xs : List α} (h : IsS122 w0 W g f0 f1 f2) (ho : d.R e W base ok v xs) (ht : e ≠ 122) : some g ≠ v.ownBlock := by
 obtain ⟨hb, hg⟩ := h
 exact Kd.R_ne ho hb ht
theorem IsS122.lt {w0 W : World} {g : Nat} {f0 : ByteArray} {f1 : Int} {f2 : Option Int} (h : IsS122 w0 W g f0 f1 f2) : g < W.heap.size := by
 obtain ⟨hb, hg⟩ := h
 exact blk_lt hb
theorem IsS122.ge {w0 W : World} {g : Nat} {f0 : ByteArray} {f1 : Int} {f2 : Option Int} (h : IsS122 w0 W g f0 f1 f2) : w0.heap.size ≤ g := by
 obtain ⟨hb, hg⟩ := h
 exact hg
theorem IsS122.ne_blk {w0 W : World} {g : Nat} {f0 : ByteArray} {f1 : Int} {f2 : Option Int} {a : Nat} {cs : Array Value} {t : TypeId} {fr : Nat × Nat} (h : IsS122 w0 W g f0 f1 f2) (hb2 : W.heap[a]? = some (.cells cs t fr)) (ht : t ≠ 122) : g ≠ a := by
 obtain ⟨hb, hg⟩ := h
 rintro rfl
 rw [hb] at hb2
 injection hb2 with hb2
 injection hb2 with _ ht2
 exact ht ht2.symm
theorem IsS122.far {w0 W : World} {g : Nat} {f0 : ByteArray} {f1 : Int} {f2 : Option Int} {p : Addr} (h : IsS122 w0 W g f0 f1 f2) (hne : g ≠ p.block) (u : Value) : IsS122 w0 (W.setCell p u) g f0 f1 f2 := by
 obtain ⟨hb, hg⟩ := h
 exact ⟨blk_far hb hne u, hg⟩
theorem cellS122_0 {W : World} {g : Nat} {f0 : ByteArray} {f1 : Int} {f2 : Option Int} (h : W.heap[g]? = some (.cells #[.string f0, .int .i64 f1, errW f2] 122 (0, 0))) : W.cell? ⟨g, 0, none⟩ = some (.string f0) := (blk_cell h 0).trans rfl
theorem IsS122.set_0 {w0 W : World} {g : Nat} {f0 : ByteArray} {f1 : Int} {f2 : Option Int} (h : IsS122 w0 W g f0 f1 f2) (x : ByteArray) : IsS122 w0 (W.setCell ⟨g, 0, none⟩ (.string x)) g x f1 f2 := by
 obtain ⟨hb, hg⟩ := h
 exact ⟨by simpa using blk_set hb 0 (.string x), hg⟩
theorem cellS122_1 {W : World} {g : Nat} {f0 : ByteArray} {f1 : Int} {f2 : Option Int} (h : W.heap[g]? = some (.cells #[.string f0, .int .i64 f1, errW f2] 122 (0, 0))) : W.cell? ⟨g, 1, none⟩ = some (.int .i64 f1) := (blk_cell h 1).trans rfl
theorem IsS122.set_1 {w0 W : World} {g : Nat} {f0 : ByteArray} {f1 : Int} {f2 : Option Int} (h : IsS122 w0 W g f0 f1 f2) (x : Int) : IsS122 w0 (W.setCell ⟨g, 1, none⟩ (.int .i64 x)) g f0 x f2 := by
 obtain ⟨hb, hg⟩ := h
 exact ⟨by simpa using blk_set hb 1 (.int .i64 x), hg⟩
theorem cellS122_2 {W : World} {g : Nat} {f0 : ByteArray} {f1 : Int} {f2 : Option Int} (h : W.heap[g]? = some (.cells #[.string f0, .int .i64 f1, errW f2] 122 (0, 0))) : W.cell? ⟨g, 2, none⟩ = some (errW f2) := (blk_cell h 2).trans rfl
theorem IsS122.set_2 {w0 W : World} {g : Nat} {f0 : ByteArray} {f1 : Int} {f2 : Option Int} (h : IsS122 w0 W g f0 f1 f2) (x : Option Int) : IsS122 w0 (W.setCell ⟨g, 2, none⟩ (errW x)) g f0 f1 x := by
 obtain ⟨hb, hg⟩ := h
 exact ⟨by simpa using blk_set hb 2 (errW x), hg⟩
theorem IsS122.setn_2 {w0 W : World} {g : Nat} {f0 : ByteArray} {f1 : Int} {f2 : Option Int} (h : IsS122 w0 W g f0 f1 f2) : IsS122 w0 (W.setCell ⟨g, 2, none⟩ (.nilIface)) g f0 f1 none := by
 have k_ := h.set_2 none
 exact k_
theorem IsS122.sets_2 {w0 W : World} {g : Nat} {f0 : ByteArray} {f1 : Int} {f2 : Option Int} (h : IsS122 w0 W g f0 f1 f2) (c : Int) : IsS122 w0 (W.setCell ⟨g, 2, none⟩ (.iface 123 (.int .i64 c))) g f0 f1 (some c) := by
 have k_ := h.set_2 (some c)
 exact k_
def cursor_New.f (a0 : ByteArray) : Option (ByteArray × Int × Option Int) := some (a0, 0, none)
set_option maxHeartbeats 8000000 in
set_option maxRecDepth 100000 in
theorem cursor_New.calls (a0 : ByteArray) (r1 : ByteArray) (r2 : Int) (r3 : Option Int) (w0 w : World) (hB : Below w0.heap.size w0 w) (h : cursor_New.f a0 = some (r1, r2, r3)) :
  Calls Try.prog 50 #[.string a0] w fun e w' => ∃ g_ : Nat, e = .returned (.pointer (some ⟨g_, 0, none⟩)) ∧ IsS122 w0 w' g_ r1 r2 r3 ∧ Below w0.heap.size w0 w' ∧ Below w.heap.size w w' := by
 have hu122 := Try.underlying122
 have HBW := Aside0.mk (Below.refl w.heap.size w)
 have HW0 := Aside0.mk hB.size
 have HB := Aside0.mk hB
 clear hB
 have H : (some (a0, 0, none)) = some (r1, r2, r3) := h
 clear h
 simp only [Option.some.injEq, Prod.mk.injEq] at H
 obtain ⟨rfl, rfl, rfl⟩ := H
 go_enter Try.func50, Try.ntmps50
 go_wp2_with (first | ((with_reducible refine gate_dst (N := 5) rfl ?_); refine box_event ?hg (N := 5) ?hd (cs := #[.string a0, .int .i64 0, errW none]) (t := 122) ?hr ?_; (case hd => rfl); (case hg => rfl); (case hr => first | (go_simp; done) | (go_simp; rfl)); intro gb104 hg w2 hbox hb; have n0_ := Aside0.mk (below_step HBW.out hb); have n1_ := Aside0.mk (below_step zb hb); have n2_ := Aside0.mk (hbox); have n3_ := Aside0.mk ((by rw [hg]; exact (below_size (by repeat (first | (with_reducible first | exact HBW.out | apply below_alloc | apply pw_below_drewN | apply below_drew1) | exact HBW.out))) : w.heap.size ≤ gb104)); have n4_ := Aside0.mk ((Nat.le_trans HW0.out (by rw [hg]; exact (below_size (by repeat (first | (with_reducible first | exact HBW.out | apply below_alloc | apply pw_below_drewN | apply below_drew1) | exact HBW.out))) : w.heap.size ≤ gb104) : w0.heap.size ≤ gb104)); clear HBW; clear HB; have HBW := n0_; have HB := n1_; have BK104 := n2_; have GW104 := n3_; have GE104 := n4_; clear n0_ n1_ n2_ n3_ n4_; clear hb hbox hg))
 go_ret
 exact ⟨_, rfl, (show IsS122 w0 _ gb104 a0 0 none from ⟨by (with_reducible repeat (first | refine blk_drewN ?_ _ | refine blk_drew ?_ | refine blk_alloc ?_ _)); exact BK104.out, GE104.out⟩), zb, by repeat (first | (with_reducible first | exact HBW.out | apply below_alloc | apply pw_below_drewN | apply below_drew1 | refine below_set ?_ GW104.out) | exact HBW.out)⟩
def cursor_Cursor_Fail.f (s0_0 : ByteArray) (s0_1 : Int) (s0_2 : Option Int) (a1 : Int) : Option (ByteArray × Int × Option Int) := if s0_2.isNone = true then (if a1 = 0 then (some (s0_0, s0_1, none)) else (some (s0_0, s0_1, some a1))) else (some (s0_0, s0_1, some (s0_2.getD 0)))
set_option maxHeartbeats 8000000 in
set_option maxRecDepth 100000 in
theorem cursor_Cursor_Fail.calls (g : Nat) (s0_0 : ByteArray) (s0_1 : Int) (s0_2 : Option Int) (a1 : Int) (r1 : ByteArray) (r2 : Int) (r3 : Option Int) (w0 w : World) (hI : IsS122 w0 w g s0_0 s0_1 s0_2) (hB : Below w0.heap.size w0 w) (h : cursor_Cursor_Fail.f s0_0 s0_1 s0_2 a1 = some (r1, r2, r3)) :
  Calls Try.prog 52 #[.pointer (some ⟨g, 0, none⟩), .int .i64 a1] w fun e w' => e = .returned (.tuple #[]) ∧ IsS122 w0 w' g r1 r2 r3 ∧ Below w0.heap.size w0 w' ∧ KeepBut w w' g none := by
 have hu77 := Try.underlying77
 have hu123 := Try.underlying123
 have HI0 := Aside0.mk hI
 have HK := Aside0.mk (KeepBut.refl w g none)
 have HL := Aside0.mk hB.size
 clear hI
 have HW0 := Aside0.mk hB.size
 have HB := Aside0.mk hB
 clear hB
 have H : (if s0_2.isNone = true then (if a1 = 0 then (some (s0_0, s0_1, none)) else (some (s0_0, s0_1, some a1))) else (some (s0_0, s0_1, some (s0_2.getD 0)))) = some (r1, r2, r3) := h
 clear h
 rcases s0_2 with _ | q105
 ·have H1 : (if a1 = 0 then (some (s0_0, s0_1, none)) else (some (s0_0, s0_1, some a1))) = some (r1, r2, r3) := by rw [if_pos (show (none : Option Int).isNone = true by rfl)] at H; exact H
  clear H
  have H := H1
  clear H1
  try simp only [errW_none, errW_some]
  by_cases c3 : a1 = 0
  ·rw [if_pos c3] at H
   have c3b0 : (a1 == 0) = true := beq_iff_eq.mpr c3
   have c3b1 : (a1 != 0) = false := bne_eq_false_iff_eq.mpr c3
   clear c3
   simp only [Option.some.injEq, Prod.mk.injEq] at H
   obtain ⟨rfl, rfl, rfl⟩ := H
   obtain ⟨HGz4, hgz4⟩ := HI0.out
   have hcz4_0 := cellS122_0 HGz4
   have hcz4_1 := cellS122_1 HGz4
   have hcz4_2 := cellS122_2 HGz4; (try simp only [errW_none, errW_some] at hcz4_2)
   have hfz4_0 := blk_frozen HGz4 0
   have hfz4_1 := blk_frozen HGz4 1
   have hfz4_2 := blk_frozen HGz4 2
   clear HGz4 hgz4
   go_enter Try.func52, Try.ntmps52
   go_wp2
   first | go_end0 | ((try simp only [Exit.inBlock, Exit.then]); refine bodyPost_ret (results_none rfl _ _ _) rfl ?_)
   exact ⟨ze, zi2, zb, zk⟩
  ·rw [if_neg c3] at H
   have c3b0 : (a1 == 0) = false := beq_eq_false_iff_ne.mpr c3
   have c3b1 : (a1 != 0) = true := bne_iff_ne.mpr c3
   simp only [Option.some.injEq, Prod.mk.injEq] at H
   obtain ⟨rfl, rfl, rfl⟩ := H
   obtain ⟨HGz5, hgz5⟩ := HI0.out
   have hcz5_0 := cellS122_0 HGz5
   have hcz5_1 := cellS122_1 HGz5
   have hcz5_2 := cellS122_2 HGz5; (try simp only [errW_none, errW_some] at hcz5_2)
   have hfz5_0 := blk_frozen HGz5 0
   have hfz5_1 := blk_frozen HGz5 1
   have hfz5_2 := blk_frozen HGz5 2
   clear HGz5 hgz5
   go_enter Try.func52, Try.ntmps52
   go_wp2
   first | go_end0 | ((try simp only [Exit.inBlock, Exit.then]); refine bodyPost_ret (results_none rfl _ _ _) rfl ?_)
   exact ⟨ze, zi2, zb, zk⟩
 ·have H1 : (some (s0_0, s0_1, some q105)) = some (r1, r2, r3) := by rw [if_neg (show ¬ (some q105).isNone = true by simp)] at H; exact H
  clear H
  have H := H1
  clear H1
  try simp only [errW_none, errW_some]
  simp only [Option.some.injEq, Prod.mk.injEq] at H
  obtain ⟨rfl, rfl, rfl⟩ := H
  obtain ⟨HGz6, hgz6⟩ := HI0.out
  have hcz6_0 := cellS122_0 HGz6
  have hcz6_1 := cellS122_1 HGz6
  have hcz6_2 := cellS122_2 HGz6; (try simp only [errW_none, errW_some] at hcz6_2)
  have hfz6_0 := blk_frozen HGz6 0
  have hfz6_1 := blk_frozen HGz6 1
  have hfz6_2 := blk_frozen HGz6 2
  clear HGz6 hgz6
  go_enter Try.func52, Try.ntmps52
  go_wp2
  first | go_end0 | ((try simp only [Exit.inBlock, Exit.then]); refine bodyPost_ret (results_none rfl _ _ _) rfl ?_)
  exact ⟨ze, zi2, zb, zk⟩
def cursor_Cursor_Left.f (s0_0 : ByteArray) (s0_1 : Int) (s0_2 : Option Int) : Option (Int × ByteArray × Int × Option Int) := some (wrap64 ((s0_0.size : Int) - s0_1), s0_0, s0_1, s0_2)
set_option maxHeartbeats 8000000 in
set_option maxRecDepth 100000 in
theorem cursor_Cursor_Left.calls (g : Nat) (s0_0 : ByteArray) (s0_1 : Int) (s0_2 : Option Int) (r1 : Int) (r2 : ByteArray) (r3 : Int) (r4 : Option Int) (w0 w : World) (hI : IsS122 w0 w g s0_0 s0_1 s0_2) (hB : Below w0.heap.size w0 w) (h : cursor_Cursor_Left.f s0_0 s0_1 s0_2 = some (r1, r2, r3, r4)) :
  Calls Try.prog 54 #[.pointer (some ⟨g, 0, none⟩)] w fun e w' => e = .returned (.int .i64 r1) ∧ IsS122 w0 w' g r2 r3 r4 ∧ Below w0.heap.size w0 w' ∧ KeepBut w w' g none := by
 have HI0 := Aside0.mk hI
 have HK := Aside0.mk (KeepBut.refl w g none)
 have HL := Aside0.mk hB.size
 clear hI
 have HW0 := Aside0.mk hB.size
 have HB := Aside0.mk hB
 clear hB
 have H : (some (wrap64 ((s0_0.size : Int) - s0_1), s0_0, s0_1, s0_2)) = some (r1, r2, r3, r4) := h
 clear h
 simp only [Option.some.injEq, Prod.mk.injEq] at H
 obtain ⟨rfl, rfl, rfl, rfl⟩ := H
 obtain ⟨HGz2, hgz2⟩ := HI0.out
 have hcz2_0 := cellS122_0 HGz2
 have hcz2_1 := cellS122_1 HGz2
 have hcz2_2 := cellS122_2 HGz2; (try simp only [errW_none, errW_some] at hcz2_2)
 have hfz2_0 := blk_frozen HGz2 0
 have hfz2_1 := blk_frozen HGz2 1
 have hfz2_2 := blk_frozen HGz2 2
 clear HGz2 hgz2
 go_enter Try.func54, Try.ntmps54
 go_wp2
 repeat (go_quiet (fail); try go_wp2)
 go_ret
 exact ⟨ze, zi2, zb, zk⟩
def cursor_Cursor_Bytes.f (s0_0 : ByteArray) (s0_1 : Int) (s0_2 : Option Int) (a1 : Int) : Option (ByteArray × ByteArray × Int × Option Int) := if s0_2.isNone = true then (if a1 < 0 then ((cursor_Cursor_Fail.f s0_0 s0_1 none 1).bind fun bt107 => (some ((⟨#[]⟩ : ByteArray), bt107.1, bt107.2.1, bt107.2.2))) else ((cursor_Cursor_Left.f s0_0 s0_1 none).bind fun bt110 => (if a1 > bt110.1 then ((cursor_Cursor_Fail.f bt110.2.1 bt110.2.2.1 bt110.2.2.2 2).bind fun bt114 => (some ((⟨#[]⟩ : ByteArray), bt114.1, bt114.2.1, bt114.2.2))) else (if 0 ≤ bt110.2.2.1 then (if bt110.2.2.1 ≤ (wrap64 (bt110.2.2.1 + a1)) then (if (wrap64 (bt110.2.2.1 + a1)) ≤ (bt110.2.1.size : Int) then (some (bt110.2.1.extract (bt110.2.2.1 : Int).toNat ((wrap64 (bt110.2.2.1 + a1)) : Int).toNat, bt110.2.1, wrap64 (bt110.2.2.1 + a1), bt110.2.2.2)) else (none)) else (none)) else (none))))) else (some ((⟨#[]⟩ : ByteArray), s0_0, s0_1, some (s0_2.getD 0)))
set_option maxHeartbeats 8000000 in
set_option maxRecDepth 100000 in
theorem cursor_Cursor_Bytes.calls (g : Nat) (s0_0 : ByteArray) (s0_1 : Int) (s0_2 : Option Int) (a1 : Int) (r1 : ByteArray) (r2 : ByteArray) (r3 : Int) (r4 : Option Int) (w0 w : World) (hI : IsS122 w0 w g s0_0 s0_1 s0_2) (hB : Below w0.heap.size w0 w) (h : cursor_Cursor_Bytes.f s0_0 s0_1 s0_2 a1 = some (r1, r2, r3, r4)) :
  Calls Try.prog 65 #[.pointer (some ⟨g, 0, none⟩), .int .i64 a1] w fun e w' => e = .returned (.string r1) ∧ IsS122 w0 w' g r2 r3 r4 ∧ Below w0.heap.size w0 w' ∧ KeepBut w w' g none := by
 have hu77 := Try.underlying77
 have hu123 := Try.underlying123
 have HI0 := Aside0.mk hI
 have HK := Aside0.mk (KeepBut.refl w g none)
 have HL := Aside0.mk hB.size
 clear hI
 have HW0 := Aside0.mk hB.size
 have HB := Aside0.mk hB
 clear hB
 have H : (if s0_2.isNone = true then (if a1 < 0 then ((cursor_Cursor_Fail.f s0_0 s0_1 none 1).bind fun bt107 => (some ((⟨#[]⟩ : ByteArray), bt107.1, bt107.2.1, bt107.2.2))) else ((cursor_Cursor_Left.f s0_0 s0_1 none).bind fun bt110 => (if a1 > bt110.1 then ((cursor_Cursor_Fail.f bt110.2.1 bt110.2.2.1 bt110.2.2.2 2).bind fun bt114 => (some ((⟨#[]⟩ : ByteArray), bt114.1, bt114.2.1, bt114.2.2))) else (if 0 ≤ bt110.2.2.1 then (if bt110.2.2.1 ≤ (wrap64 (bt110.2.2.1 + a1)) then (if (wrap64 (bt110.2.2.1 + a1)) ≤ (bt110.2.1.size : Int) then (some (bt110.2.1.extract (bt110.2.2.1 : Int).toNat ((wrap64 (bt110.2.2.1 + a1)) : Int).toNat, bt110.2.1, wrap64 (bt110.2.2.1 + a1), bt110.2.2.2)) else (none)) else (none)) else (none))))) else (some ((⟨#[]⟩ : ByteArray), s0_0, s0_1, some (s0_2.getD 0)))) = some (r1, r2, r3, r4) := h
 clear h
 rcases s0_2 with _ | q106
 ·have H1 : (if a1 < 0 then ((cursor_Cursor_Fail.f s0_0 s0_1 none 1).bind fun bt107 => (some ((⟨#[]⟩ : ByteArray), bt107.1, bt107.2.1, bt107.2.2))) else ((cursor_Cursor_Left.f s0_0 s0_1 none).bind fun bt110 => (if a1 > bt110.1 then ((cursor_Cursor_Fail.f bt110.2.1 bt110.2.2.1 bt110.2.2.2 2).bind fun bt114 => (some ((⟨#[]⟩ : ByteArray), bt114.1, bt114.2.1, bt114.2.2))) else (if 0 ≤ bt110.2.2.1 then (if bt110.2.2.1 ≤ (wrap64 (bt110.2.2.1 + a1)) then (if (wrap64 (bt110.2.2.1 + a1)) ≤ (bt110.2.1.size : Int) then (some (bt110.2.1.extract (bt110.2.2.1 : Int).toNat ((wrap64 (bt110.2.2.1 + a1)) : Int).toNat, bt110.2.1, wrap64 (bt110.2.2.1 + a1), bt110.2.2.2)) else (none)) else (none)) else (none))))) = some (r1, r2, r3, r4) := by rw [if_pos (show (none : Option Int).isNone = true by rfl)] at H; exact H
  clear H
  have H := H1
  clear H1
  try simp only [errW_none, errW_some]
  by_cases c3 : a1 < 0
  ·rw [if_pos c3] at H
   have c3b0 : decide (a1 < 0) = true := decide_eq_true c3
   clear c3
   replace H := Option.bind_eq_some_iff.mp H
   obtain ⟨⟨t107, t108, t109⟩, A40, H⟩ := H
   replace H : (some ((⟨#[]⟩ : ByteArray), t107, t108, t109)) = some (r1, r2, r3, r4) := H
   have A4 := Aside0.mk A40
   clear A40
   simp only [Option.some.injEq, Prod.mk.injEq] at H
   obtain ⟨rfl, rfl, rfl, rfl⟩ := H
   obtain ⟨HGz5, hgz5⟩ := HI0.out
   have hcz5_0 := cellS122_0 HGz5
   have hcz5_1 := cellS122_1 HGz5
   have hcz5_2 := cellS122_2 HGz5; (try simp only [errW_none, errW_some] at hcz5_2)
   have hfz5_0 := blk_frozen HGz5 0
   have hfz5_1 := blk_frozen HGz5 1
   have hfz5_2 := blk_frozen HGz5 2
   clear HGz5 hgz5
   go_enter Try.func65, Try.ntmps65
   go_wp2_with (first | (go_at_call 52; (with_reducible refine (cursor_Cursor_Fail.calls g s0_0 s0_1 none 1 t107 t108 t109 w0 _ ?side1 ?side2 A4.out).mono ?_); (case side1 => exact zi2); (case side2 => exact zb); rintro e w6 ⟨rfl, hi, hb, hk⟩; have n0_ := Aside0.mk (KeepBut.trans zk hk (.inl rfl)); have n1_ := Aside0.mk (hb); have n2_ := Aside0.mk (hi); clear HK; clear HB; clear HI0; have HK := n0_; have HB := n1_; have HI0 := n2_; clear n0_ n1_ n2_; (try clear hb); (try clear hb2); (try clear hk); (try clear hi); (try simp only [errW_none, errW_some])))
   repeat (go_quiet (first | (go_at_call 52; (with_reducible refine (cursor_Cursor_Fail.calls g s0_0 s0_1 none 1 t107 t108 t109 w0 _ ?side1 ?side2 A4.out).mono ?_); (case side1 => exact zi2); (case side2 => exact zb); rintro e w6 ⟨rfl, hi, hb, hk⟩; have n0_ := Aside0.mk (KeepBut.trans zk hk (.inl rfl)); have n1_ := Aside0.mk (hb); have n2_ := Aside0.mk (hi); clear HK; clear HB; clear HI0; have HK := n0_; have HB := n1_; have HI0 := n2_; clear n0_ n1_ n2_; (try clear hb); (try clear hb2); (try clear hk); (try clear hi); (try simp only [errW_none, errW_some]))); try go_wp2_with (first | (go_at_call 52; (with_reducible refine (cursor_Cursor_Fail.calls g s0_0 s0_1 none 1 t107 t108 t109 w0 _ ?side1 ?side2 A4.out).mono ?_); (case side1 => exact zi2); (case side2 => exact zb); rintro e w6 ⟨rfl, hi, hb, hk⟩; have n0_ := Aside0.mk (KeepBut.trans zk hk (.inl rfl)); have n1_ := Aside0.mk (hb); have n2_ := Aside0.mk (hi); clear HK; clear HB; clear HI0; have HK := n0_; have HB := n1_; have HI0 := n2_; clear n0_ n1_ n2_; (try clear hb); (try clear hb2); (try clear hk); (try clear hi); (try simp only [errW_none, errW_some]))))
   go_ret
   exact ⟨ze, zi2, zb, zk⟩
  ·rw [if_neg c3] at H
   have c3b0 : decide (a1 < 0) = false := decide_eq_false c3
   clear c3
   replace H := Option.bind_eq_some_iff.mp H
   obtain ⟨⟨t110, t111, t112, t113⟩, A70, H⟩ := H
   replace H : (if a1 > t110 then ((cursor_Cursor_Fail.f t111 t112 t113 2).bind fun bt114 => (some ((⟨#[]⟩ : ByteArray), bt114.1, bt114.2.1, bt114.2.2))) else (if 0 ≤ t112 then (if t112 ≤ (wrap64 (t112 + a1)) then (if (wrap64 (t112 + a1)) ≤ (t111.size : Int) then (some (t111.extract (t112 : Int).toNat ((wrap64 (t112 + a1)) : Int).toNat, t111, wrap64 (t112 + a1), t113)) else (none)) else (none)) else (none))) = some (r1, r2, r3, r4) := H
   have A7 := Aside0.mk A70
   clear A70
   by_cases c8 : a1 > t110
   ·rw [if_pos c8] at H
    have c8b0 : decide (t110 < a1) = true := decide_eq_true c8
    clear c8
    replace H := Option.bind_eq_some_iff.mp H
    obtain ⟨⟨t114, t115, t116⟩, A90, H⟩ := H
    replace H : (some ((⟨#[]⟩ : ByteArray), t114, t115, t116)) = some (r1, r2, r3, r4) := H
    have A9 := Aside0.mk A90
    clear A90
    simp only [Option.some.injEq, Prod.mk.injEq] at H
    obtain ⟨rfl, rfl, rfl, rfl⟩ := H
    obtain ⟨HGz10, hgz10⟩ := HI0.out
    have hcz10_0 := cellS122_0 HGz10
    have hcz10_1 := cellS122_1 HGz10
    have hcz10_2 := cellS122_2 HGz10; (try simp only [errW_none, errW_some] at hcz10_2)
    have hfz10_0 := blk_frozen HGz10 0
    have hfz10_1 := blk_frozen HGz10 1
    have hfz10_2 := blk_frozen HGz10 2
    clear HGz10 hgz10
    go_enter Try.func65, Try.ntmps65
    go_wp2_with (first | (go_at_call 54; (with_reducible refine (cursor_Cursor_Left.calls g s0_0 s0_1 none t110 t111 t112 t113 w0 _ ?side1 ?side2 A7.out).mono ?_); (case side1 => exact zi2); (case side2 => exact zb); rintro e w11 ⟨rfl, hi, hb, hk⟩; have n0_ := Aside0.mk (KeepBut.trans zk hk (.inl rfl)); have n1_ := Aside0.mk (hb); have n2_ := Aside0.mk (hi); clear HK; clear HB; clear HI0; have HK := n0_; have HB := n1_; have HI0 := n2_; clear n0_ n1_ n2_; (try clear hb); (try clear hb2); (try clear hk); (try clear hi); (try simp only [errW_none, errW_some])) | (go_at_call 52; (with_reducible refine (cursor_Cursor_Fail.calls g t111 t112 t113 2 t114 t115 t116 w0 _ ?side1 ?side2 A9.out).mono ?_); (case side1 => exact zi2); (case side2 => exact zb); rintro e w12 ⟨rfl, hi, hb, hk⟩; have n0_ := Aside0.mk (KeepBut.trans zk hk (.inl rfl)); have n1_ := Aside0.mk (hb); have n2_ := Aside0.mk (hi); clear HK; clear HB; clear HI0; have HK := n0_; have HB := n1_; have HI0 := n2_; clear n0_ n1_ n2_; (try clear hb); (try clear hb2); (try clear hk); (try clear hi); (try simp only [errW_none, errW_some])))
    repeat (go_quiet (first | (go_at_call 54; (with_reducible refine (cursor_Cursor_Left.calls g s0_0 s0_1 none t110 t111 t112 t113 w0 _ ?side1 ?side2 A7.out).mono ?_); (case side1 => exact zi2); (case side2 => exact zb); rintro e w11 ⟨rfl, hi, hb, hk⟩; have n0_ := Aside0.mk (KeepBut.trans zk hk (.inl rfl)); have n1_ := Aside0.mk (hb); have n2_ := Aside0.mk (hi); clear HK; clear HB; clear HI0; have HK := n0_; have HB := n1_; have HI0 := n2_; clear n0_ n1_ n2_; (try clear hb); (try clear hb2); (try clear hk); (try clear hi); (try simp only [errW_none, errW_some])) | (go_at_call 52; (with_reducible refine (cursor_Cursor_Fail.calls g t111 t112 t113 2 t114 t115 t116 w0 _ ?side1 ?side2 A9.out).mono ?_); (case side1 => exact zi2); (case side2 => exact zb); rintro e w12 ⟨rfl, hi, hb, hk⟩; have n0_ := Aside0.mk (KeepBut.trans zk hk (.inl rfl)); have n1_ := Aside0.mk (hb); have n2_ := Aside0.mk (hi); clear HK; clear HB; clear HI0; have HK := n0_; have HB := n1_; have HI0 := n2_; clear n0_ n1_ n2_; (try clear hb); (try clear hb2); (try clear hk); (try clear hi); (try simp only [errW_none, errW_some]))); try go_wp2_with (first | (go_at_call 54; (with_reducible refine (cursor_Cursor_Left.calls g s0_0 s0_1 none t110 t111 t112 t113 w0 _ ?side1 ?side2 A7.out).mono ?_); (case side1 => exact zi2); (case side2 => exact zb); rintro e w11 ⟨rfl, hi, hb, hk⟩; have n0_ := Aside0.mk (KeepBut.trans zk hk (.inl rfl)); have n1_ := Aside0.mk (hb); have n2_ := Aside0.mk (hi); clear HK; clear HB; clear HI0; have HK := n0_; have HB := n1_; have HI0 := n2_; clear n0_ n1_ n2_; (try clear hb); (try clear hb2); (try clear hk); (try clear hi); (try simp only [errW_none, errW_some])) | (go_at_call 52; (with_reducible refine (cursor_Cursor_Fail.calls g t111 t112 t113 2 t114 t115 t116 w0 _ ?side1 ?side2 A9.out).mono ?_); (case side1 => exact zi2); (case side2 => exact zb); rintro e w12 ⟨rfl, hi, hb, hk⟩; have n0_ := Aside0.mk (KeepBut.trans zk hk (.inl rfl)); have n1_ := Aside0.mk (hb); have n2_ := Aside0.mk (hi); clear HK; clear HB; clear HI0; have HK := n0_; have HB := n1_; have HI0 := n2_; clear n0_ n1_ n2_; (try clear hb); (try clear hb2); (try clear hk); (try clear hi); (try simp only [errW_none, errW_some]))))
    go_ret
    exact ⟨ze, zi2, zb, zk⟩
   ·rw [if_neg c8] at H
    have c8b0 : decide (t110 < a1) = false := decide_eq_false c8
    clear c8
    by_cases c13 : 0 ≤ t112
    ·rw [if_pos c13] at H
     have c13b0 := eq_true c13
     have c13b1 : decide (0 ≤ t112) = true := decide_eq_true c13
     clear c13
     by_cases c14 : t112 ≤ (wrap64 (t112 + a1))
     ·rw [if_pos c14] at H
      have c14b0 := eq_true c14
      have c14b1 : decide (t112 ≤ (wrap64 (t112 + a1))) = true := decide_eq_true c14
      by_cases c15 : (wrap64 (t112 + a1)) ≤ (t111.size : Int)
      ·rw [if_pos c15] at H
       have c15b0 := eq_true c15
       have c15b1 : decide ((wrap64 (t112 + a1)) ≤ (t111.size : Int)) = true := decide_eq_true c15
       simp only [Option.some.injEq, Prod.mk.injEq] at H
       obtain ⟨rfl, rfl, rfl, rfl⟩ := H
       obtain ⟨HGz16, hgz16⟩ := HI0.out
       have hcz16_0 := cellS122_0 HGz16
       have hcz16_1 := cellS122_1 HGz16
       have hcz16_2 := cellS122_2 HGz16; (try simp only [errW_none, errW_some] at hcz16_2)
       have hfz16_0 := blk_frozen HGz16 0
       have hfz16_1 := blk_frozen HGz16 1
       have hfz16_2 := blk_frozen HGz16 2
       clear HGz16 hgz16
       go_enter Try.func65, Try.ntmps65
       go_wp2_with (first | (go_at_call 54; (with_reducible refine (cursor_Cursor_Left.calls g s0_0 s0_1 none t110 t111 t112 t113 w0 _ ?side1 ?side2 A7.out).mono ?_); (case side1 => exact zi2); (case side2 => exact zb); rintro e w17 ⟨rfl, hi, hb, hk⟩; have n0_ := Aside0.mk (KeepBut.trans zk hk (.inl rfl)); have n1_ := Aside0.mk (hb); have n2_ := Aside0.mk (hi); clear HK; clear HB; clear HI0; have HK := n0_; have HB := n1_; have HI0 := n2_; clear n0_ n1_ n2_; (try clear hb); (try clear hb2); (try clear hk); (try clear hi); (try simp only [errW_none, errW_some]); obtain ⟨HGz18, hgz18⟩ := HI0.out; have hcz18_0 := cellS122_0 HGz18; have hcz18_1 := cellS122_1 HGz18; have hcz18_2 := cellS122_2 HGz18; (try simp only [errW_none, errW_some] at hcz18_2); have hfz18_0 := blk_frozen HGz18 0; have hfz18_1 := blk_frozen HGz18 1; have hfz18_2 := blk_frozen HGz18 2; clear HGz18 hgz18))
       repeat (go_quiet (first | (go_at_call 54; (with_reducible refine (cursor_Cursor_Left.calls g s0_0 s0_1 none t110 t111 t112 t113 w0 _ ?side1 ?side2 A7.out).mono ?_); (case side1 => exact zi2); (case side2 => exact zb); rintro e w17 ⟨rfl, hi, hb, hk⟩; have n0_ := Aside0.mk (KeepBut.trans zk hk (.inl rfl)); have n1_ := Aside0.mk (hb); have n2_ := Aside0.mk (hi); clear HK; clear HB; clear HI0; have HK := n0_; have HB := n1_; have HI0 := n2_; clear n0_ n1_ n2_; (try clear hb); (try clear hb2); (try clear hk); (try clear hi); (try simp only [errW_none, errW_some]); obtain ⟨HGz18, hgz18⟩ := HI0.out; have hcz18_0 := cellS122_0 HGz18; have hcz18_1 := cellS122_1 HGz18; have hcz18_2 := cellS122_2 HGz18; (try simp only [errW_none, errW_some] at hcz18_2); have hfz18_0 := blk_frozen HGz18 0; have hfz18_1 := blk_frozen HGz18 1; have hfz18_2 := blk_frozen HGz18 2; clear HGz18 hgz18)); try go_wp2_with (first | (go_at_call 54; (with_reducible refine (cursor_Cursor_Left.calls g s0_0 s0_1 none t110 t111 t112 t113 w0 _ ?side1 ?side2 A7.out).mono ?_); (case side1 => exact zi2); (case side2 => exact zb); rintro e w17 ⟨rfl, hi, hb, hk⟩; have n0_ := Aside0.mk (KeepBut.trans zk hk (.inl rfl)); have n1_ := Aside0.mk (hb); have n2_ := Aside0.mk (hi); clear HK; clear HB; clear HI0; have HK := n0_; have HB := n1_; have HI0 := n2_; clear n0_ n1_ n2_; (try clear hb); (try clear hb2); (try clear hk); (try clear hi); (try simp only [errW_none, errW_some]); obtain ⟨HGz18, hgz18⟩ := HI0.out; have hcz18_0 := cellS122_0 HGz18; have hcz18_1 := cellS122_1 HGz18; have hcz18_2 := cellS122_2 HGz18; (try simp only [errW_none, errW_some] at hcz18_2); have hfz18_0 := blk_frozen HGz18 0; have hfz18_1 := blk_frozen HGz18 1; have hfz18_2 := blk_frozen HGz18 2; clear HGz18 hgz18)))
       go_ret
       exact ⟨ze, zi2, zb, zk⟩
      ·rw [if_neg c15] at H
       exact absurd H (by simp)
     ·rw [if_neg c14] at H
      exact absurd H (by simp)
    ·rw [if_neg c13] at H
     exact absurd H (by simp)
 ·have H1 : (some ((⟨#[]⟩ : ByteArray), s0_0, s0_1, some q106)) = some (r1, r2, r3, r4) := by rw [if_neg (show ¬ (some q106).isNone = true by simp)] at H; exact H
  clear H
  have H := H1
  clear H1
  try simp only [errW_none, errW_some]
  simp only [Option.some.injEq, Prod.mk.injEq] at H
  obtain ⟨rfl, rfl, rfl, rfl⟩ := H
  obtain ⟨HGz19, hgz19⟩ := HI0.out
  have hcz19_0 := cellS122_0 HGz19
  have hcz19_1 := cellS122_1 HGz19
  have hcz19_2 := cellS122_2 HGz19; (try simp only [errW_none, errW_some] at hcz19_2)
  have hfz19_0 := blk_frozen HGz19 0
  have hfz19_1 := blk_frozen HGz19 1
  have hfz19_2 := blk_frozen HGz19 2
  clear HGz19 hgz19
  go_enter Try.func65, Try.ntmps65
  go_wp2
  repeat (go_quiet (fail); try go_wp2)
  go_ret
  exact ⟨ze, zi2, zb, zk⟩
def cursor_Cursor_Byte.f (s0_0 : ByteArray) (s0_1 : Int) (s0_2 : Option Int) : Option (Int × ByteArray × Int × Option Int) := (cursor_Cursor_Bytes.f s0_0 s0_1 s0_2 1).bind fun bt117 => (if bt117.1.toList = ([] : List UInt8) then (some (0, bt117.2.1, bt117.2.2.1, bt117.2.2.2)) else (if 0 < (bt117.1.size : Int) then (some (bt bt117.1 0, bt117.2.1, bt117.2.2.1, bt117.2.2.2)) else (none)))
set_option maxHeartbeats 8000000 in
set_option maxRecDepth 100000 in
theorem cursor_Cursor_Byte.calls (g : Nat) (s0_0 : ByteArray) (s0_1 : Int) (s0_2 : Option Int) (r1 : Int) (r2 : ByteArray) (r3 : Int) (r4 : Option Int) (w0 w : World) (hI : IsS122 w0 w g s0_0 s0_1 s0_2) (hB : Below w0.heap.size w0 w) (h : cursor_Cursor_Byte.f s0_0 s0_1 s0_2 = some (r1, r2, r3, r4)) :
  Calls Try.prog 51 #[.pointer (some ⟨g, 0, none⟩)] w fun e w' => e = .returned (.int .u8 r1) ∧ IsS122 w0 w' g r2 r3 r4 ∧ Below w0.heap.size w0 w' ∧ KeepBut w w' g none := by
 have HI0 := Aside0.mk hI
 have HK := Aside0.mk (KeepBut.refl w g none)
 have HL := Aside0.mk hB.size
 clear hI
 have HW0 := Aside0.mk hB.size
 have HB := Aside0.mk hB
 clear hB
 have H : ((cursor_Cursor_Bytes.f s0_0 s0_1 s0_2 1).bind fun bt117 => (if bt117.1.toList = ([] : List UInt8) then (some (0, bt117.2.1, bt117.2.2.1, bt117.2.2.2)) else (if 0 < (bt117.1.size : Int) then (some (bt bt117.1 0, bt117.2.1, bt117.2.2.1, bt117.2.2.2)) else (none)))) = some (r1, r2, r3, r4) := h
 clear h
 replace H := Option.bind_eq_some_iff.mp H
 obtain ⟨⟨t117, t118, t119, t120⟩, A20, H⟩ := H
 replace H : (if t117.toList = ([] : List UInt8) then (some (0, t118, t119, t120)) else (if 0 < (t117.size : Int) then (some (bt t117 0, t118, t119, t120)) else (none))) = some (r1, r2, r3, r4) := H
 have A2 := Aside0.mk A20
 clear A20
 by_cases c3 : t117.toList = ([] : List UInt8)
 ·rw [if_pos c3] at H
  have c3b0 : (t117.toList == ([] : List UInt8)) = true := beq_iff_eq.mpr c3
  have c3b1 : (t117.toList != ([] : List UInt8)) = false := bne_eq_false_iff_eq.mpr c3
  clear c3
  simp only [Option.some.injEq, Prod.mk.injEq] at H
  obtain ⟨rfl, rfl, rfl, rfl⟩ := H
  go_enter Try.func51, Try.ntmps51
  go_wp2_with (first | ((with_reducible refine gate_callee (f := 65) rfl ?_); refine goesL_ (some 5) rfl rfl Try.func65 (by kernel_rfl) rfl #[.pointer (some ⟨g, 0, none⟩), .int .i64 1] rfl zm ?_; (with_reducible refine (cursor_Cursor_Bytes.calls g s0_0 s0_1 s0_2 1 t117 t118 t119 t120 w0 _ ?side1 ?side2 A2.out).mono ?_); (case side1 => exact zi2); (case side2 => exact zb); rintro e w4 ⟨rfl, hi, hb, hk⟩; refine ⟨_, rfl, ?_⟩; have n0_ := Aside0.mk (KeepBut.trans zk hk (.inl rfl)); have n1_ := Aside0.mk (hb); have n2_ := Aside0.mk (hi); clear HK; clear HB; clear HI0; have HK := n0_; have HB := n1_; have HI0 := n2_; clear n0_ n1_ n2_; (try clear hb); (try clear hb2); (try clear hk); (try clear hi); (try simp only [errW_none, errW_some])))
  go_ret
  exact ⟨ze, zi2, zb, zk⟩
 ·rw [if_neg c3] at H
  have c3b0 : (t117.toList == ([] : List UInt8)) = false := beq_eq_false_iff_ne.mpr c3
  have c3b1 : (t117.toList != ([] : List UInt8)) = true := bne_iff_ne.mpr c3
  by_cases c5 : 0 < (t117.size : Int)
  ·rw [if_pos c5] at H
   have c5b0 : decide (0 < (t117.size : Int)) = true := decide_eq_true c5
   have c5b1 : decide (0 < t117.size) = true := decide_eq_true (by omega)
   clear c5
   simp only [Option.some.injEq, Prod.mk.injEq] at H
   obtain ⟨rfl, rfl, rfl, rfl⟩ := H
   go_enter Try.func51, Try.ntmps51
   go_wp2_with (first | ((with_reducible refine gate_callee (f := 65) rfl ?_); refine goesL_ (some 5) rfl rfl Try.func65 (by kernel_rfl) rfl #[.pointer (some ⟨g, 0, none⟩), .int .i64 1] rfl zm ?_; (with_reducible refine (cursor_Cursor_Bytes.calls g s0_0 s0_1 s0_2 1 t117 t118 t119 t120 w0 _ ?side1 ?side2 A2.out).mono ?_); (case side1 => exact zi2); (case side2 => exact zb); rintro e w7 ⟨rfl, hi, hb, hk⟩; refine ⟨_, rfl, ?_⟩; have n0_ := Aside0.mk (KeepBut.trans zk hk (.inl rfl)); have n1_ := Aside0.mk (hb); have n2_ := Aside0.mk (hi); clear HK; clear HB; clear HI0; have HK := n0_; have HB := n1_; have HI0 := n2_; clear n0_ n1_ n2_; (try clear hb); (try clear hb2); (try clear hk); (try clear hi); (try simp only [errW_none, errW_some]); have p6 : 0 ≤ (0 : Int) := (by omega); have q6 : 0 < t117.size := (by have : (0 : Int) < (t117.size : Int) := of_decide_eq_true (by first | (with_reducible assumption) | assumption); omega); have hx6 : ∀ h : 0 < t117.size, ((t117[0]'h).toNat : Int) = bt t117 0 := bt_at t117 0; clear p6; have qi6 : (0 < (t117.size : Int)) = True := eq_true (of_decide_eq_true (by first | (with_reducible assumption) | assumption)); replace q6 := eq_true q6))
   go_ret
   exact ⟨ze, zi2, zb, zk⟩
  ·rw [if_neg c5] at H
   exact absurd H (by simp)
def cursor_Cursor_Err.f (s0_0 : ByteArray) (s0_1 : Int) (s0_2 : Option Int) : Option (Int × ByteArray × Int × Option Int) := if s0_2.isNone = true then (some (0, s0_0, s0_1, none)) else (some ((s0_2.getD 0), s0_0, s0_1, some (s0_2.getD 0)))
set_option maxHeartbeats 8000000 in
set_option maxRecDepth 100000 in
theorem cursor_Cursor_Err.calls (g : Nat) (s0_0 : ByteArray) (s0_1 : Int) (s0_2 : Option Int) (r1 : Int) (r2 : ByteArray) (r3 : Int) (r4 : Option Int) (w0 w : World) (hI : IsS122 w0 w g s0_0 s0_1 s0_2) (hB : Below w0.heap.size w0 w) (h : cursor_Cursor_Err.f s0_0 s0_1 s0_2 = some (r1, r2, r3, r4)) :
  Calls Try.prog 53 #[.pointer (some ⟨g, 0, none⟩)] w fun e w' => e = .returned (.int .i64 r1) ∧ IsS122 w0 w' g r2 r3 r4 ∧ Below w0.heap.size w0 w' ∧ KeepBut w w' g none := by
 have HI0 := Aside0.mk hI
 have HK := Aside0.mk (KeepBut.refl w g none)
 have HL := Aside0.mk hB.size
 clear hI
 have HW0 := Aside0.mk hB.size
 have HB := Aside0.mk hB
 clear hB
 have H : (if s0_2.isNone = true then (some (0, s0_0, s0_1, none)) else (some ((s0_2.getD 0), s0_0, s0_1, some (s0_2.getD 0)))) = some (r1, r2, r3, r4) := h
 clear h
 rcases s0_2 with _ | q121
 ·have H1 : (some (0, s0_0, s0_1, none)) = some (r1, r2, r3, r4) := by rw [if_pos (show (none : Option Int).isNone = true by rfl)] at H; exact H
  clear H
  have H := H1
  clear H1
  try simp only [errW_none, errW_some]
  simp only [Option.some.injEq, Prod.mk.injEq] at H
  obtain ⟨rfl, rfl, rfl, rfl⟩ := H
  obtain ⟨HGz2, hgz2⟩ := HI0.out
  have hcz2_0 := cellS122_0 HGz2
  have hcz2_1 := cellS122_1 HGz2
  have hcz2_2 := cellS122_2 HGz2; (try simp only [errW_none, errW_some] at hcz2_2)
  have hfz2_0 := blk_frozen HGz2 0
  have hfz2_1 := blk_frozen HGz2 1
  have hfz2_2 := blk_frozen HGz2 2
  clear HGz2 hgz2
  go_enter Try.func53, Try.ntmps53
  go_wp2
  go_ret
  exact ⟨ze, zi2, zb, zk⟩
 ·have H1 : (some (q121, s0_0, s0_1, some q121)) = some (r1, r2, r3, r4) := by rw [if_neg (show ¬ (some q121).isNone = true by simp)] at H; exact H
  clear H
  have H := H1
  clear H1
  try simp only [errW_none, errW_some]
  simp only [Option.some.injEq, Prod.mk.injEq] at H
  obtain ⟨rfl, rfl, rfl, rfl⟩ := H
  obtain ⟨HGz3, hgz3⟩ := HI0.out
  have hcz3_0 := cellS122_0 HGz3
  have hcz3_1 := cellS122_1 HGz3
  have hcz3_2 := cellS122_2 HGz3; (try simp only [errW_none, errW_some] at hcz3_2)
  have hfz3_0 := blk_frozen HGz3 0
  have hfz3_1 := blk_frozen HGz3 1
  have hfz3_2 := blk_frozen HGz3 2
  clear HGz3 hgz3
  go_enter Try.func53, Try.ntmps53
  go_wp2
  go_ret
  exact ⟨ze, zi2, zb, zk⟩
end Go.Proofs.Ytdjpelcdijpihaa.PrintF
