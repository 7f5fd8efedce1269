/- A part of the proof of the claim: what it uses of the text HandCrc. -/
import Derived.Test.YtdjpelcdijpihaaProg
import Derived.WalkKit
import Derived.Laws.Rows
import Derived.Laws.MakeOwn
import Derived.Laws.BitsLemmas
import Derived.KernelRfl
import Derived.Deep.LoopGhost
import Derived.Lib.Hide
import Derived.Deep.RegionWith
namespace Go.Proofs.Ytdjpelcdijpihaa.Print
open Go.RowKit
def tabStep (x : Int) : Int := if x % 2 = 1 then bits .xor .u32 (x / 2) 3988292384 else x / 2
def tabN : Nat → Int → Int
 | 0, x => x
 | k + 1, x => tabStep (tabN k x)
def tabAt (i : Nat) : Int := tabN 8 i
def tabCells : Array Value := ((List.range 256).map fun i => Value.int .u32 (tabAt i)).toArray
theorem bits_range_u32 (b : BinOp) (x y : Int) : 0 ≤ bits b .u32 x y ∧ bits b .u32 x y ≤ 4294967295 := by
 unfold bits
 rw [IntKind.wrap_u32]
 omega
theorem bits_and1_u32 (x : Int) (h : 0 ≤ x ∧ x ≤ 4294967295) : bits .and .u32 x 1 = x % 2 :=
 bits_mask .u32 32 (by decide) (fun n h0 h1 => by rw [IntKind.wrap_u32]; omega) 1 (by decide) x h.1 (by omega)
theorem tabStep_range {x : Int} (h : 0 ≤ x ∧ x ≤ 4294967295) : 0 ≤ tabStep x ∧ tabStep x ≤ 4294967295 := by
 unfold tabStep
 split
 ·exact bits_range_u32 _ _ _
 ·omega
theorem tabN_range {x : Int} (h : 0 ≤ x ∧ x ≤ 4294967295) : ∀ k, 0 ≤ tabN k x ∧ tabN k x ≤ 4294967295
 | 0 => h
 | k + 1 => tabStep_range (tabN_range h k)
def TabRel (w wr : World) (k : Nat) : Prop := wr.heap[w.heap.size]? = some (.cells Try.zeroCells70 70 (0, 0)) ∧ ∃ cs : Array Value, cs.size = 256 ∧ wr.heap[w.heap.size + 1]? = some (.cells cs 70 (0, 0)) ∧ ∀ j, j < k → cs[j]? = some (.int .u32 (tabAt j))
theorem tabRel_start (w : World) : TabRel w ((w.alloc (.cells Try.zeroCells70 70)).alloc (.cells Try.zeroCells70 70)) 0 :=
 ⟨heap_alloc2_old _ _ _, Try.zeroCells70, Try.zeroCells70_size, heap_alloc2_new _ _ _, fun j hj => absurd hj (by omega)⟩
theorem tabRel_cell {w wr : World} {k : Nat} (h : TabRel w wr k) (hk : k < 256) : (∃ v, wr.cell? ⟨w.heap.size + 1, k, none⟩ = some v) ∧ wr.frozen? ⟨w.heap.size + 1, k, none⟩ = false := by
 obtain ⟨_, cs, hs, hg, _⟩ := h
 refine ⟨⟨cs[k]'(by omega), ?_⟩, frozen_of_row _ _ _ _ _ hg⟩
 rw [cell_of_row _ _ _ _ _ _ hg]
 simp
theorem tabRel_set {w wr : World} {k : Nat} (h : TabRel w wr k) (hk : k < 256) : TabRel w (wr.setCell ⟨w.heap.size + 1, k, none⟩ (.int .u32 (tabAt k))) (k + 1) := by
 obtain ⟨h0, cs, hs, hg, hj⟩ := h
 refine ⟨by rw [heap_setCell_other _ _ _ _ (by simp)]; exact h0, cs.setIfInBounds k (.int .u32 (tabAt k)), by simpa using hs, heap_setCell_same _ _ _ _ _ _ hg, fun j hlt => ?_⟩
 rw [Array.getElem?_setIfInBounds]
 by_cases e : k = j
 ·subst e; simp [hs, hk]
 ·rw [if_neg e]; exact hj j (by omega)
theorem tabRel_end {w wr : World} (h : TabRel w wr 256) : wr.heap[w.heap.size]? = some (.cells Try.zeroCells70 70 (0, 0)) ∧ wr.heap[w.heap.size + 1]? = some (.cells tabCells 70 (0, 0)) := by
 obtain ⟨h0, cs, hs, hg, hj⟩ := h
 refine ⟨h0, ?_⟩
 rw [hg]
 congr 2
 apply Array.ext_getElem?
 intro i
 by_cases hi : i < 256
 ·rw [hj i hi]; simp [tabCells, hi]
 ·rw [Array.getElem?_eq_none (by omega), Array.getElem?_eq_none (by simp [tabCells]; omega)]
theorem tabCells_size : tabCells.size = 256 := by simp [tabCells]
theorem tabCells_one : tabCells.all (·.oneCell') = true := by
 rw [Array.all_eq_true]
 intro i hi
 simp [tabCells, Value.oneCell']
theorem below_setRow {B g : Nat} {w wr : World} (h : Below B w wr) (hg : B ≤ g) (cs : Array Value) : Below B w (wr.setRow g cs) :=
 ⟨h.os, h.tape, h.output, by rw [size_setRow]; exact h.size, fun k hk => by rw [setRow_other wr g k cs (by omega)]; exact h.block k hk⟩
set_option maxHeartbeats 4000000 in
set_option maxRecDepth 100000 in
theorem table_any (w : World) : Calls Try.prog 70 #[] w fun e w' => e = .returned (.agg tabCells) ∧ Below w.heap.size w w' := by
 go_enter Try.func70, Try.ntmps70
 go_wp2_with fail
 go_loopw [2, 3, 4] (fun _ _ i wr => ∃ k : Nat, k ≤ 256 ∧ i = .int .i64 k ∧ Below w.heap.size w wr ∧ TabRel w wr k)
  (fun _ _ i _ => 256 - (intOf i).toNat)
 case atStart => exact ⟨0, by omega, rfl, ((Below.refl _ _).alloc (Nat.le_refl _) _).alloc (by simp) _, tabRel_start w⟩
 case round =>
  obtain ⟨k, hk, rfl, hB, H⟩ := hrel
  by_cases hlt : k < 256
  ·have hd : decide ((k : Int) < 256) = true := decide_eq_true (by omega)
   obtain ⟨⟨v0, hc⟩, hf⟩ := tabRel_cell H hlt
   go_wp2_with fail
   go_loop [3, 9] (fun x j => ∃ m : Nat, m ≤ 8 ∧ j = .int .i64 m ∧ x = .int .u32 (tabN m k)) (fun _ j => 8 - (intOf j).toNat)
   case atStart => exact ⟨0, by omega, rfl, rfl⟩
   case round =>
    obtain ⟨m, hm, rfl, rfl⟩ := hrel
    have hr := tabN_range (x := (k : Int)) (by omega) m
    by_cases hm8 : m < 8
    ·have hs : Hid (tabN (m + 1) k = tabStep (tabN m k)) := rfl
     generalize tabN m (k : Int) = x at *
     have ha := bits_and1_u32 x hr
     by_cases hx : x % 2 = 1
     ·have hx1 : (bits .and .u32 x 1 == 1) = true := by rw [ha]; simpa using hx
      clear ha
      go_wp2_with fail
      go_round
      case rel => exact ⟨m + 1, by omega, by go_num, by rw [hs.out, tabStep, if_pos hx]⟩
      case measure => simp [intOf]; omega
     ·have hx1 : (bits .and .u32 x 1 == 1) = false := by rw [ha]; simpa using hx
      clear ha
      go_wp2_with fail
      go_round
      case rel => exact ⟨m + 1, by omega, by go_num, by rw [hs.out, tabStep, if_neg hx]⟩
      case measure => simp [intOf]; omega
    ·obtain rfl : m = 8 := by omega
     have H1 := Lib.hid (tabRel_set H hlt)
     clear H
     rw [show tabN 8 (k : Int) = tabAt k from rfl]
     go_wp2_with fail
     go_roundw
     case rel => exact ⟨k + 1, by omega, by go_num, hB.setCell (by simp) _, H1.out⟩
     case measure => simp [intOf]; omega
  ·obtain rfl : k = 256 := by omega
   obtain ⟨h0, h1⟩ := tabRel_end H
   have H0 := Lib.hid h0
   have H1 := Lib.hid h1
   clear h0 h1 H
   go_wp2_with (first | (refine wpList_load_row rfl 70 _ rfl _ rfl 70 _ (0, 0) _ H1.out Try.underlying70 rfl (by rw [tabCells_size]; kernel_rfl) ?_) | (refine wpList_store_row rfl 70 _ _ rfl _ tabCells rfl rfl 70 _ H0.out (by rw [tabCells_size]; kernel_rfl) (by rw [tabCells_size, Try.zeroCells70_size]) tabCells_one ?_))
   refine bodyPost_ret (v := .agg tabCells) (results_cell_row rfl _ _ w.heap.size 70 tabCells (0, 0) _ rfl (setRow_heap _ _ _ _ _ _ H0.out) Try.underlying70 rfl (by rw [tabCells_size]; kernel_rfl)) rfl ⟨rfl, below_setRow hB (Nat.le_refl _) _⟩
set_option maxHeartbeats 4000000 in
set_option maxRecDepth 100000 in
theorem steps_any (w : World) : Calls Try.prog 43 #[] w fun e w' => e = .returned (.agg tabCells) ∧ Below w.heap.size w w' := by
 have H0 := Lib.hid (heap_alloc_new w (.cells Try.zeroCells70 70))
 go_enter Try.func43, Try.ntmps43
 go_wp2_with fail
 refine (table_any _).mono ?_
 rintro e w1 ⟨rfl, hb⟩
 have hg : w1.heap[w.heap.size]? = some (.cells Try.zeroCells70 70 (0, 0)) := by
  rw [hb.block _ (by simp)]
  exact H0.out
 have H1 := Lib.hid hg
 clear hg
 have HB : Hid (Below w.heap.size w w1) := ((Below.refl _ _).alloc (Nat.le_refl _) _).trans (hb.mono (by simp))
 clear hb
 go_wp2_with (refine wpList_store_row rfl 70 _ _ rfl _ tabCells rfl rfl 70 _ H1.out (by rw [tabCells_size]; kernel_rfl) (by rw [tabCells_size, Try.zeroCells70_size]) tabCells_one ?_)
 exact bodyPost_ret (v := .agg tabCells) (results_cell_row rfl _ _ w.heap.size 70 tabCells (0, 0) _ rfl (setRow_heap _ _ _ _ _ _ H1.out) Try.underlying70 rfl (by rw [tabCells_size]; kernel_rfl)) rfl ⟨rfl, below_setRow HB.out (Nat.le_refl _) _⟩
theorem run_index_tab (i : Int) (h0 : 0 ≤ i) (h1 : i ≤ 255) (w : World) : (Instr.index 70 (.agg tabCells) (.int .u8 i)).run Try.prog w = .ok (.int .u32 (tabAt i.toNat)) w := by
 have hu : Try.prog.underlying 70 = some (.array 256 23) := Try.underlying70
 have hu2 : Try.prog.underlying 23 = some (.int .u32) := Try.underlying23
 have hs : (Try.prog.info? 23).map (·.size) = some 1 := by kernel_rfl
 have hl : tabCells[i.toNat]? = some (.int .u32 (tabAt i.toNat)) := by simp [tabCells, show i.toNat < 256 by omega]
 have hz : (sizeOf 23).run Try.prog w = .ok 1 w := by
  cases hq : Try.prog.info? 23 with
  | none => simp [hq] at hs
  | some q => simp [sizeOf, typeInfo, hq] at hs ⊢; exact hs
 have hp : (part 23 tabCells i.toNat).run Try.prog w = .ok (.int .u32 (tabAt i.toNat)) w := by
  unfold part
  simp [Sem.run_bind, isAgg, run_underlying hu2, hl]
 unfold Instr.index
 simp [Sem.run_bind, run_underlying hu, asIntOf, h0, show i < 256 by omega, hp, hz]
theorem cpl_u32 (a : Int) (h : 0 ≤ a ∧ a ≤ 4294967295) : bits .xor .u32 IntKind.u32.max a = 4294967295 - a := by
 obtain ⟨n, rfl⟩ := Int.eq_ofNat_of_zero_le h.1
 have hm : IntKind.u32.max = ((4294967295 : Nat) : Int) := by decide
 have h2 : (BitVec.ofInt 32 (n : Int)) = BitVec.ofNat 32 n := BitVec.ofInt_natCast ..
 have h1 : (BitVec.ofInt 32 IntKind.u32.max) = BitVec.allOnes 32 := by rw [hm]; rfl
 show IntKind.u32.wrap ((BitVec.ofInt 32 IntKind.u32.max ^^^ BitVec.ofInt 32 (n : Int)).toNat : Int) = _
 rw [h1, h2, BitVec.allOnes_xor, BitVec.toNat_not, BitVec.toNat_ofNat, Nat.mod_eq_of_lt (by omega : n < 2 ^ 32), IntKind.wrap_u32]
 omega
def moreStep (x : Int) (c : UInt8) : Int := bits .xor .u32 (x / 256) (tabAt (bits .xor .u8 (IntKind.u8.wrap x) c.toNat).toNat)
def moreList (x : Int) (l : List UInt8) : Int := l.foldl moreStep x
theorem bits_range_u8 (b : BinOp) (x y : Int) : 0 ≤ bits b .u8 x y ∧ bits b .u8 x y ≤ 255 := by
 unfold bits
 rw [IntKind.wrap_u8]
 omega
theorem moreStep_range (x : Int) (c : UInt8) : 0 ≤ moreStep x c ∧ moreStep x c ≤ 4294967295 := bits_range_u32 _ _ _
theorem moreList_range (x : Int) (h : 0 ≤ x ∧ x ≤ 4294967295) : ∀ l, 0 ≤ moreList x l ∧ moreList x l ≤ 4294967295 := by
 intro l
 induction l generalizing x with
 | nil => exact h
 | cons c l ih => exact ih _ (moreStep_range x c)
theorem moreList_snoc (x : Int) (s : ByteArray) (k : Nat) (h : k < s.size) : moreList x (s.data.toList.take (k + 1)) = moreStep (moreList x (s.data.toList.take k)) s[k] := by
 rw [List.take_succ_eq_append_getElem (by simpa using h), moreList, List.foldl_append]
 rfl
def crc_More.f (a0 : Int) (a1 : ByteArray) : Option Int := if 0 ≤ a0 ∧ a0 ≤ 4294967295 ∧ a1.size ≤ 9223372036854775807 then some (4294967295 - moreList (4294967295 - a0) a1.data.toList) else none
theorem retInt {k : IntKind} {a b : Int} (h : a = b) : Ending.returned (.int k a) = .returned (.int k b) := by rw [h]
set_option maxHeartbeats 4000000 in
set_option maxRecDepth 100000 in
theorem crc_More.calls (a0 : Int) (a1 : ByteArray) (r : Int) (w : World) (h : crc_More.f a0 a1 = some r) : Calls Try.prog 22 #[.int .u32 a0, .string a1] w fun e w' => e = .returned (.int .u32 r) ∧ Below w.heap.size w w' := by
 unfold crc_More.f at h
 split at h
 ·rename_i hc
  obtain ⟨h0, h1, hs⟩ := hc
  have Hr := Lib.hid (Option.some.inj h)
  clear h
  go_enter Try.func22, Try.ntmps22
  go_wp2_with fail
  rw [cpl_u32 a0 ⟨h0, h1⟩]
  go_loopw [5, 6] (fun x i wr => ∃ k : Nat, k ≤ a1.size ∧ i = .int .i64 k ∧ x = .int .u32 (moreList (4294967295 - a0) (a1.data.toList.take k)) ∧ Below w.heap.size w wr) (fun _ i _ => a1.size - (intOf i).toNat)
  case atStart => exact ⟨0, Nat.zero_le _, rfl, rfl, Below.refl _ _⟩
  case round =>
   obtain ⟨k, hk, rfl, rfl, hB⟩ := hrel
   have hr := moreList_range (4294967295 - a0) (by omega) (a1.data.toList.take k)
   by_cases hlt : k < a1.size
   ·have hsn := Lib.hid (moreList_snoc (4294967295 - a0) a1 k hlt)
    generalize moreList (4294967295 - a0) (a1.data.toList.take k) = x at *
    have hix := fun w => run_index_tab (bits .xor .u8 (IntKind.u8.wrap x) (a1[k].toNat : Int)) (bits_range_u8 _ _ _).1 (bits_range_u8 _ _ _).2 w
    go_wp2_with fail
    go_region_with (first
     | (go_at_call 43; refine (steps_any _).mono ?_; rintro e w1 ⟨rfl, hb⟩))
    all_goals
     clear hix
     go_wp2_with fail
     go_roundw
     case rel => exact ⟨k + 1, by omega, by go_num, by rw [hsn.out]; rfl, hB.drew.trans (hb.mono hB.size)⟩
     case measure => simp [intOf]; omega
   ·obtain rfl : k = a1.size := by omega
    rw [List.take_of_length_le (by simp)] at *
    go_wp2_with fail
    go_ret
    exact ⟨retInt (by rw [← Hr.out]; exact cpl_u32 _ hr), hB⟩
 ·exact absurd h (by simp)
end Go.Proofs.Ytdjpelcdijpihaa.Print
