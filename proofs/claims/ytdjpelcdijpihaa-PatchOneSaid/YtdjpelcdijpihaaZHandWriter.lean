/- A part of the proof of the claim: what it uses of the text HandWriter. -/
import Derived.Test.YtdjpelcdijpihaaShort
import Derived.Test.YtdjpelcdijpihaaZPrintF4
import Derived.Test.YtdjpelcdijpihaaZHandFrame
import Derived.Deep.RegionHeld3
import Derived.IntWalk
import Derived.OpenShut
namespace Go.Proofs.Ytdjpelcdijpihaa.PrintF
open Go.RowKit Go.Proofs.Ytdjpelcdijpihaa.Print Go.Proofs.YtdjpelcdijpihaaW.PrintWords Go.Proofs.YtdjpelcdijpihaaW.PrintLast Go.Lib
set_option linter.unusedVariables false
set_option linter.unusedSimpArgs false
def IsW (B b : Nat) (bs : List UInt8) (wr : Bool) (w : World) : Prop := IsB 97 [.bool wr] B b bs w
variable {B b : Nat} {bs : List UInt8} {wr : Bool} {w w' : World}
theorem IsW.below (h : IsW B b bs wr w) (k : Below w.heap.size w w') : IsW B b bs wr w' := IsB_below h k
theorem IsW.lt (h : IsW B b bs wr w) : b < w.heap.size := by obtain ⟨p, v, hp, h⟩ := h; exact h.lt
theorem IsW.ge (h : IsW B b bs wr w) : B ≤ b := by obtain ⟨p, v, hp, h⟩ := h; exact h.1
theorem IsW.c2 (h : IsW B b bs wr w) : w.cell? ⟨b, 2, none⟩ = some (.bool wr) ∧ w.frozen? ⟨b, 2, none⟩ = false := by
 obtain ⟨p, v, hp, h⟩ := h
 exact ⟨h.cell 2, h.frozen 2⟩
theorem IsW.set (h : IsW B b bs wr w) (x : Bool) : IsW B b bs x (w.setCell ⟨b, 2, none⟩ (.bool x)) := by
 obtain ⟨p, v, hp, h⟩ := h
 have hne := h.ne (by decide)
 obtain ⟨hB, hb, hown⟩ := h
 refine ⟨p, v, hp, hB, by rw [heap_setCell_same _ _ _ _ _ _ hb]; simp, ?_⟩
 exact hown.kept (row := some b) ⟨rfl, rfl, rfl, by simp [World.setCell], fun k _ hk => Below.heap_setCell _ _ _ _ (fun e => hk (by simp [e]))⟩ (Or.inr hne)
def numB (n : Int) : List UInt8 := u8s (vb (n % 18446744073709551616).toNat)
def noB (n : Int) : Bool := decide (n < 0 ∨ 16777216 < n)
def zigN (n : Int) : Int := Go.bits .xor .u64 (IntKind.u64.wrap ((IntKind.u64.wrap n) * 2)) (IntKind.u64.wrap (n / 9223372036854775808))
def sgnB (n : Int) : List UInt8 := numB (zigN n)
theorem numB_len (n : Int) : (numB n).length ≤ 10 := by
 unfold numB u8s
 rw [List.length_map]
 exact vb_len _
theorem numB_put (n : Int) : ∃ v, varint_Put.f 10 (IntKind.u64.wrap n) = some v ∧ v.data.toList = numB n ∧ v.size ≤ 10 := by
 have hw : IntKind.u64.wrap n = ((n % 18446744073709551616).toNat : Int) := by rw [IntKind.wrap_u64]; omega
 refine ⟨_, by rw [hw]; exact varPut_eq _ (by omega), strOf_ints, ?_⟩
 rw [strOfNums_size]
 simpa [ints] using vb_len (n % 18446744073709551616).toNat
theorem u64_id {n : Int} (h : 0 ≤ n ∧ n < 18446744073709551616) : IntKind.u64.wrap n = n := by rw [IntKind.wrap_u64]; omega
theorem zig_range (n : Int) : 0 ≤ zigN n ∧ zigN n < 18446744073709551616 := by
 unfold zigN
 have := wf_bits .xor .u64 (IntKind.u64.wrap ((IntKind.u64.wrap n) * 2)) (IntKind.u64.wrap (n / 9223372036854775808))
 have := bounds_u64 this
 omega
set_option maxHeartbeats 4000000 in
set_option maxRecDepth 100000 in
theorem uint_wrong (n : Int) (h : IsW B b bs true w) (hlen : bs.length + 10 ≤ 140737488355328) (hBw : B ≤ w.heap.size) :
  Calls Try.prog 58 #[.pointer (some ⟨b, 0, none⟩), .int .i64 n] w fun e w' => e = .returned (.tuple #[]) ∧ IsW B b (bs ++ numB n) true w' ∧ KeepB B b w w' := by
 obtain ⟨c2, f2⟩ := h.c2
 obtain ⟨v, hv, hvb, hvs⟩ := numB_put n
 have HV := Lib.hid hv
 have HVB := Lib.hid hvb
 have HX : Hid (IsW B b bs true (w.setCell ⟨b, 2, none⟩ (.bool true))) := Lib.hid (h.set true)
 have KX : Hid (KeepB B b w (w.setCell ⟨b, 2, none⟩ (.bool true))) := Lib.hid ((KeepB.refl _ _ _).setCell 2 _)
 clear h hv hvb
 go_enter Try.func58, Try.ntmps58
 go_wp2_with fail
 have hBw2 : B ≤ (w.setCell ⟨b, 2, none⟩ (.bool true)).heap.size := by simpa using hBw
 clear hBw c2 f2
 generalize w.setCell ⟨b, 2, none⟩ (.bool true) = W at HX KX hBw2 ⊢
 have hBw := hBw2
 refine wp_region_held_drew (S := fun _ => True) (by kernel_rfl) trivial (fun hHeld => ?_)
 refine tkz 0 rfl ?_ (.inl ⟨by rfl, ?_⟩) ?_
 rotate_left 1
 ·intro w hSw
  go_simp
  (try with_reducible rfl)
 (try simp only [Act.put, zq1, zq2, zq3, zq4, zq5, zq6])
 refine tkz 1 rfl ?_ (.inl ⟨by rfl, ?_⟩) ?_
 rotate_left 1
 ·intro w hSw
  go_simp
  (try with_reducible rfl)
 (try simp only [Act.put, zq1, zq2, zq3, zq4, zq5, zq6])
 refine tkz 2 rfl ?_ (.inl ⟨by rfl, ?_⟩) ?_
 rotate_left 1
 ·intro w hSw
  go_simp
  (try with_reducible rfl)
 (try simp only [Act.put, zq1, zq2, zq3, zq4, zq5, zq6])
 refine tkz 3 rfl ?_ (.inl ⟨by rfl, ?_⟩) ?_
 rotate_left 1
 ·intro w hSw
  go_simp
  (try with_reducible rfl)
 (try simp only [Act.put, zq1, zq2, zq3, zq4, zq5, zq6])
 refine tkz 4 rfl ?_ (.inl ⟨by rfl, ?_⟩) ?_
 rotate_left 1
 ·intro w hSw
  go_simp
  (try with_reducible rfl)
 (try simp only [Act.put, zq1, zq2, zq3, zq4, zq5, zq6])
 refine wpAnyH_ready (rs := [5]) (by kernel_rfl) (by simp) ?_
 refine AllReadyH.cons (o := _) rfl (fun K hK => ?_) AllReadyH.nil
 go_simp
 go_at_call 46
 refine (varint_Put.calls 10 _ _ _ HV.out).mono ?_
 rintro e w4 ⟨rfl, hb4⟩
 refine hK.out _ _ trivial (fun hHeld => ?_)
 clear hK K
 (try simp only [Act.put, zq1, zq2, zq3, zq4, zq5, zq6])
 have HW := Lib.hid (IsB_below (IsB_below HX.out (Below.drew (Below.refl _ _))) hb4)
 have hz := Lib.hid (show B ≤ w4.heap.size from Nat.le_trans hBw (by have := hb4.size; simpa using this))
 refine wpAnyH_ready (rs := [6]) (by kernel_rfl) (by simp) ?_
 refine AllReadyH.cons (o := _) rfl (fun K hK => ?_) AllReadyH.nil
 go_simp
 go_at_call 44
 refine (writeString_calls (hasB97 _) v HW.out (by omega) hz.out).mono ?_
 rintro e w7 ⟨rfl, h7, k7⟩
 refine hK.out _ _ trivial (fun hHeld => ?_)
 clear hK K
 (try simp only [Act.put, zq1, zq2, zq3, zq4, zq5, zq6])
 refine wpAnyH_done (by kernel_rfl) ?_ _
 go_wp2_with fail
 go_end0
 exact ⟨rfl, by rw [← HVB.out]; exact h7, KX.out.trans ((KeepB.of_below ((Below.drew (Below.refl _ _)).trans hb4)).trans k7)⟩
set_option maxHeartbeats 4000000 in
set_option maxRecDepth 100000 in
theorem uint_neg (n : Int) (h : IsW B b bs false w) (hlen : bs.length + 10 ≤ 140737488355328) (hBw : B ≤ w.heap.size) (hn : n < 0) :
  Calls Try.prog 58 #[.pointer (some ⟨b, 0, none⟩), .int .i64 n] w fun e w' => e = .returned (.tuple #[]) ∧ IsW B b (bs ++ numB n) true w' ∧ KeepB B b w w' := by
 have t1 : decide (n < 0) = true := decide_eq_true hn
 clear hn
 obtain ⟨c2, f2⟩ := h.c2
 obtain ⟨v, hv, hvb, hvs⟩ := numB_put n
 have HV := Lib.hid hv
 have HVB := Lib.hid hvb
 have HX : Hid (IsW B b bs true (w.setCell ⟨b, 2, none⟩ (.bool true))) := Lib.hid (h.set true)
 have KX : Hid (KeepB B b w (w.setCell ⟨b, 2, none⟩ (.bool true))) := Lib.hid ((KeepB.refl _ _ _).setCell 2 _)
 clear h hv hvb
 go_enter Try.func58, Try.ntmps58
 go_wp2_with fail
 have hBw2 : B ≤ (w.setCell ⟨b, 2, none⟩ (.bool true)).heap.size := by simpa using hBw
 clear hBw c2 f2
 generalize w.setCell ⟨b, 2, none⟩ (.bool true) = W at HX KX hBw2 ⊢
 have hBw := hBw2
 refine wp_region_held_drew (S := fun _ => True) (by kernel_rfl) trivial (fun hHeld => ?_)
 refine tkz 0 rfl ?_ (.inl ⟨by rfl, ?_⟩) ?_
 rotate_left 1
 ·intro w hSw
  go_simp
  (try with_reducible rfl)
 (try simp only [Act.put, zq1, zq2, zq3, zq4, zq5, zq6])
 refine tkz 1 rfl ?_ (.inl ⟨by rfl, ?_⟩) ?_
 rotate_left 1
 ·intro w hSw
  go_simp
  (try with_reducible rfl)
 (try simp only [Act.put, zq1, zq2, zq3, zq4, zq5, zq6])
 refine tkz 2 rfl ?_ (.inl ⟨by rfl, ?_⟩) ?_
 rotate_left 1
 ·intro w hSw
  go_simp
  (try with_reducible rfl)
 (try simp only [Act.put, zq1, zq2, zq3, zq4, zq5, zq6])
 refine tkz 3 rfl ?_ (.inl ⟨by rfl, ?_⟩) ?_
 rotate_left 1
 ·intro w hSw
  go_simp
  (try with_reducible rfl)
 (try simp only [Act.put, zq1, zq2, zq3, zq4, zq5, zq6])
 refine tkz 4 rfl ?_ (.inl ⟨by rfl, ?_⟩) ?_
 rotate_left 1
 ·intro w hSw
  go_simp
  (try with_reducible rfl)
 (try simp only [Act.put, zq1, zq2, zq3, zq4, zq5, zq6])
 refine wpAnyH_ready (rs := [5]) (by kernel_rfl) (by simp) ?_
 refine AllReadyH.cons (o := _) rfl (fun K hK => ?_) AllReadyH.nil
 go_simp
 go_at_call 46
 refine (varint_Put.calls 10 _ _ _ HV.out).mono ?_
 rintro e w4 ⟨rfl, hb4⟩
 refine hK.out _ _ trivial (fun hHeld => ?_)
 clear hK K
 (try simp only [Act.put, zq1, zq2, zq3, zq4, zq5, zq6])
 have HW := Lib.hid (IsB_below (IsB_below HX.out (Below.drew (Below.refl _ _))) hb4)
 have hz := Lib.hid (show B ≤ w4.heap.size from Nat.le_trans hBw (by have := hb4.size; simpa using this))
 refine wpAnyH_ready (rs := [6]) (by kernel_rfl) (by simp) ?_
 refine AllReadyH.cons (o := _) rfl (fun K hK => ?_) AllReadyH.nil
 go_simp
 go_at_call 44
 refine (writeString_calls (hasB97 _) v HW.out (by omega) hz.out).mono ?_
 rintro e w7 ⟨rfl, h7, k7⟩
 refine hK.out _ _ trivial (fun hHeld => ?_)
 clear hK K
 (try simp only [Act.put, zq1, zq2, zq3, zq4, zq5, zq6])
 refine wpAnyH_done (by kernel_rfl) ?_ _
 go_wp2_with fail
 go_end0
 exact ⟨rfl, by rw [← HVB.out]; exact h7, KX.out.trans ((KeepB.of_below ((Below.drew (Below.refl _ _)).trans hb4)).trans k7)⟩
set_option maxHeartbeats 4000000 in
set_option maxRecDepth 100000 in
theorem uint_big (n : Int) (h : IsW B b bs false w) (hlen : bs.length + 10 ≤ 140737488355328) (hBw : B ≤ w.heap.size) (hn : ¬ n < 0) (hb : 16777216 < n) :
  Calls Try.prog 58 #[.pointer (some ⟨b, 0, none⟩), .int .i64 n] w fun e w' => e = .returned (.tuple #[]) ∧ IsW B b (bs ++ numB n) true w' ∧ KeepB B b w w' := by
 have t1 : decide (n < 0) = false := decide_eq_false hn
 have t2 : decide (16777216 < n) = true := decide_eq_true hb
 clear hn hb
 obtain ⟨c2, f2⟩ := h.c2
 obtain ⟨v, hv, hvb, hvs⟩ := numB_put n
 have HV := Lib.hid hv
 have HVB := Lib.hid hvb
 have HX : Hid (IsW B b bs true (w.setCell ⟨b, 2, none⟩ (.bool true))) := Lib.hid (h.set true)
 have KX : Hid (KeepB B b w (w.setCell ⟨b, 2, none⟩ (.bool true))) := Lib.hid ((KeepB.refl _ _ _).setCell 2 _)
 clear h hv hvb
 go_enter Try.func58, Try.ntmps58
 go_wp2_with fail
 have hBw2 : B ≤ (w.setCell ⟨b, 2, none⟩ (.bool true)).heap.size := by simpa using hBw
 clear hBw c2 f2
 generalize w.setCell ⟨b, 2, none⟩ (.bool true) = W at HX KX hBw2 ⊢
 have hBw := hBw2
 refine wp_region_held_drew (S := fun _ => True) (by kernel_rfl) trivial (fun hHeld => ?_)
 refine tkz 0 rfl ?_ (.inl ⟨by rfl, ?_⟩) ?_
 rotate_left 1
 ·intro w hSw
  go_simp
  (try with_reducible rfl)
 (try simp only [Act.put, zq1, zq2, zq3, zq4, zq5, zq6])
 refine tkz 1 rfl ?_ (.inl ⟨by rfl, ?_⟩) ?_
 rotate_left 1
 ·intro w hSw
  go_simp
  (try with_reducible rfl)
 (try simp only [Act.put, zq1, zq2, zq3, zq4, zq5, zq6])
 refine tkz 2 rfl ?_ (.inl ⟨by rfl, ?_⟩) ?_
 rotate_left 1
 ·intro w hSw
  go_simp
  (try with_reducible rfl)
 (try simp only [Act.put, zq1, zq2, zq3, zq4, zq5, zq6])
 refine tkz 3 rfl ?_ (.inl ⟨by rfl, ?_⟩) ?_
 rotate_left 1
 ·intro w hSw
  go_simp
  (try with_reducible rfl)
 (try simp only [Act.put, zq1, zq2, zq3, zq4, zq5, zq6])
 refine tkz 4 rfl ?_ (.inl ⟨by rfl, ?_⟩) ?_
 rotate_left 1
 ·intro w hSw
  go_simp
  (try with_reducible rfl)
 (try simp only [Act.put, zq1, zq2, zq3, zq4, zq5, zq6])
 refine wpAnyH_ready (rs := [5]) (by kernel_rfl) (by simp) ?_
 refine AllReadyH.cons (o := _) rfl (fun K hK => ?_) AllReadyH.nil
 go_simp
 go_at_call 46
 refine (varint_Put.calls 10 _ _ _ HV.out).mono ?_
 rintro e w4 ⟨rfl, hb4⟩
 refine hK.out _ _ trivial (fun hHeld => ?_)
 clear hK K
 (try simp only [Act.put, zq1, zq2, zq3, zq4, zq5, zq6])
 have HW := Lib.hid (IsB_below (IsB_below HX.out (Below.drew (Below.refl _ _))) hb4)
 have hz := Lib.hid (show B ≤ w4.heap.size from Nat.le_trans hBw (by have := hb4.size; simpa using this))
 refine wpAnyH_ready (rs := [6]) (by kernel_rfl) (by simp) ?_
 refine AllReadyH.cons (o := _) rfl (fun K hK => ?_) AllReadyH.nil
 go_simp
 go_at_call 44
 refine (writeString_calls (hasB97 _) v HW.out (by omega) hz.out).mono ?_
 rintro e w7 ⟨rfl, h7, k7⟩
 refine hK.out _ _ trivial (fun hHeld => ?_)
 clear hK K
 (try simp only [Act.put, zq1, zq2, zq3, zq4, zq5, zq6])
 refine wpAnyH_done (by kernel_rfl) ?_ _
 go_wp2_with fail
 go_end0
 exact ⟨rfl, by rw [← HVB.out]; exact h7, KX.out.trans ((KeepB.of_below ((Below.drew (Below.refl _ _)).trans hb4)).trans k7)⟩
set_option maxHeartbeats 4000000 in
set_option maxRecDepth 100000 in
theorem uint_ok (n : Int) (h : IsW B b bs false w) (hlen : bs.length + 10 ≤ 140737488355328) (hBw : B ≤ w.heap.size) (hn : ¬ n < 0) (hb : ¬ 16777216 < n) :
  Calls Try.prog 58 #[.pointer (some ⟨b, 0, none⟩), .int .i64 n] w fun e w' => e = .returned (.tuple #[]) ∧ IsW B b (bs ++ numB n) false w' ∧ KeepB B b w w' := by
 have t1 : decide (n < 0) = false := decide_eq_false hn
 have t2 : decide (16777216 < n) = false := decide_eq_false hb
 clear hn hb
 obtain ⟨c2, f2⟩ := h.c2
 obtain ⟨v, hv, hvb, hvs⟩ := numB_put n
 have HV := Lib.hid hv
 have HVB := Lib.hid hvb
 have HX : Hid (IsW B b bs false (w.setCell ⟨b, 2, none⟩ (.bool false))) := Lib.hid (h.set false)
 have KX : Hid (KeepB B b w (w.setCell ⟨b, 2, none⟩ (.bool false))) := Lib.hid ((KeepB.refl _ _ _).setCell 2 _)
 clear h hv hvb
 go_enter Try.func58, Try.ntmps58
 go_wp2_with fail
 have hBw2 : B ≤ (w.setCell ⟨b, 2, none⟩ (.bool false)).heap.size := by simpa using hBw
 clear hBw c2 f2
 generalize w.setCell ⟨b, 2, none⟩ (.bool false) = W at HX KX hBw2 ⊢
 have hBw := hBw2
 refine wp_region_held_drew (S := fun _ => True) (by kernel_rfl) trivial (fun hHeld => ?_)
 refine tkz 0 rfl ?_ (.inl ⟨by rfl, ?_⟩) ?_
 rotate_left 1
 ·intro w hSw
  go_simp
  (try with_reducible rfl)
 (try simp only [Act.put, zq1, zq2, zq3, zq4, zq5, zq6])
 refine tkz 1 rfl ?_ (.inl ⟨by rfl, ?_⟩) ?_
 rotate_left 1
 ·intro w hSw
  go_simp
  (try with_reducible rfl)
 (try simp only [Act.put, zq1, zq2, zq3, zq4, zq5, zq6])
 refine tkz 2 rfl ?_ (.inl ⟨by rfl, ?_⟩) ?_
 rotate_left 1
 ·intro w hSw
  go_simp
  (try with_reducible rfl)
 (try simp only [Act.put, zq1, zq2, zq3, zq4, zq5, zq6])
 refine tkz 3 rfl ?_ (.inl ⟨by rfl, ?_⟩) ?_
 rotate_left 1
 ·intro w hSw
  go_simp
  (try with_reducible rfl)
 (try simp only [Act.put, zq1, zq2, zq3, zq4, zq5, zq6])
 refine tkz 4 rfl ?_ (.inl ⟨by rfl, ?_⟩) ?_
 rotate_left 1
 ·intro w hSw
  go_simp
  (try with_reducible rfl)
 (try simp only [Act.put, zq1, zq2, zq3, zq4, zq5, zq6])
 refine wpAnyH_ready (rs := [5]) (by kernel_rfl) (by simp) ?_
 refine AllReadyH.cons (o := _) rfl (fun K hK => ?_) AllReadyH.nil
 go_simp
 go_at_call 46
 refine (varint_Put.calls 10 _ _ _ HV.out).mono ?_
 rintro e w4 ⟨rfl, hb4⟩
 refine hK.out _ _ trivial (fun hHeld => ?_)
 clear hK K
 (try simp only [Act.put, zq1, zq2, zq3, zq4, zq5, zq6])
 have HW := Lib.hid (IsB_below (IsB_below HX.out (Below.drew (Below.refl _ _))) hb4)
 have hz := Lib.hid (show B ≤ w4.heap.size from Nat.le_trans hBw (by have := hb4.size; simpa using this))
 refine wpAnyH_ready (rs := [6]) (by kernel_rfl) (by simp) ?_
 refine AllReadyH.cons (o := _) rfl (fun K hK => ?_) AllReadyH.nil
 go_simp
 go_at_call 44
 refine (writeString_calls (hasB97 _) v HW.out (by omega) hz.out).mono ?_
 rintro e w7 ⟨rfl, h7, k7⟩
 refine hK.out _ _ trivial (fun hHeld => ?_)
 clear hK K
 (try simp only [Act.put, zq1, zq2, zq3, zq4, zq5, zq6])
 refine wpAnyH_done (by kernel_rfl) ?_ _
 go_wp2_with fail
 go_end0
 exact ⟨rfl, by rw [← HVB.out]; exact h7, KX.out.trans ((KeepB.of_below ((Below.drew (Below.refl _ _)).trans hb4)).trans k7)⟩
theorem uint_calls (n : Int) (h : IsW B b bs wr w) (hlen : bs.length + 10 ≤ 140737488355328) (hBw : B ≤ w.heap.size) :
  Calls Try.prog 58 #[.pointer (some ⟨b, 0, none⟩), .int .i64 n] w fun e w' => e = .returned (.tuple #[]) ∧ IsW B b (bs ++ numB n) (wr || noB n) w' ∧ KeepB B b w w' := by
 cases wr with
 | true => rw [Bool.true_or]; exact uint_wrong n h hlen hBw
 | false =>
  rw [Bool.false_or]
  unfold noB
  by_cases hn : n < 0
  ·rw [decide_eq_true (Or.inl hn)]; exact uint_neg n h hlen hBw hn
  ·by_cases hb : 16777216 < n
   ·rw [decide_eq_true (Or.inr hb)]; exact uint_big n h hlen hBw hn hb
   ·rw [decide_eq_false (by omega)]; exact uint_ok n h hlen hBw hn hb
set_option maxHeartbeats 4000000 in
set_option maxRecDepth 100000 in
theorem int_calls (n : Int) (h : IsW B b bs wr w) (hlen : bs.length + 10 ≤ 140737488355328) (hBw : B ≤ w.heap.size) :
  Calls Try.prog 102 #[.pointer (some ⟨b, 0, none⟩), .int .i64 n] w fun e w' => e = .returned (.tuple #[]) ∧ IsW B b (bs ++ sgnB n) wr w' ∧ KeepB B b w w' := by
 obtain ⟨v, hv, hvb, hvs⟩ := numB_put (zigN n)
 rw [u64_id (zig_range n)] at hv
 have HV := Lib.hid hv
 have HVB := Lib.hid hvb
 have HX := Lib.hid h
 clear h hv hvb
 go_enter Try.func102, Try.ntmps102
 go_wp2_with fail
 refine wp_region_held_drew (S := fun _ => True) (by kernel_rfl) trivial (fun hHeld => ?_)
 refine tkz 0 rfl ?_ (.inl ⟨by rfl, ?_⟩) ?_
 rotate_left 1
 ·intro w hSw
  go_simp
  (try with_reducible rfl)
 (try simp only [Act.put, zq1, zq2, zq3, zq4, zq5, zq6])
 refine tkz 1 rfl ?_ (.inl ⟨by rfl, ?_⟩) ?_
 rotate_left 1
 ·intro w hSw
  go_simp
  (try with_reducible rfl)
 (try simp only [Act.put, zq1, zq2, zq3, zq4, zq5, zq6])
 refine tkz 2 rfl ?_ (.inl ⟨by rfl, ?_⟩) ?_
 rotate_left 1
 ·intro w hSw
  go_simp
  (try with_reducible rfl)
 (try simp only [Act.put, zq1, zq2, zq3, zq4, zq5, zq6])
 refine tkz 3 rfl ?_ (.inl ⟨by rfl, ?_⟩) ?_
 rotate_left 1
 ·intro w hSw
  go_simp
  (try with_reducible rfl)
 (try simp only [Act.put, zq1, zq2, zq3, zq4, zq5, zq6])
 refine wpAnyH_ready (rs := [4]) (by kernel_rfl) (by simp) ?_
 refine AllReadyH.cons (o := _) rfl (fun K hK => ?_) AllReadyH.nil
 go_simp
 go_at_call 110
 refine (varint_Zig.calls n (zigN n) _ rfl).mono ?_
 rintro e w3 ⟨rfl, ⟨n3, rfl⟩⟩
 refine hK.out _ _ trivial (fun hHeld => ?_)
 clear hK K
 (try simp only [Act.put, zq1, zq2, zq3, zq4, zq5, zq6])
 refine wpAnyH_ready (rs := [5]) (by kernel_rfl) (by simp) ?_
 refine AllReadyH.cons (o := _) rfl (fun K hK => ?_) AllReadyH.nil
 go_simp
 go_at_call 46
 refine (varint_Put.calls 10 _ _ _ HV.out).mono ?_
 rintro e w4 ⟨rfl, hb4⟩
 refine hK.out _ _ trivial (fun hHeld => ?_)
 clear hK K
 (try simp only [Act.put, zq1, zq2, zq3, zq4, zq5, zq6])
 have HB4 : Hid (Below w.heap.size w w4) := Lib.hid (below_step (pw_below_drewN (Below.refl _ _) _) hb4)
 clear hb4
 have HW := Lib.hid (IsB_below HX.out HB4.out)
 have hz := Lib.hid (Nat.le_trans hBw HB4.out.size)
 refine wpAnyH_ready (rs := [6]) (by kernel_rfl) (by simp) ?_
 refine AllReadyH.cons (o := _) rfl (fun K hK => ?_) AllReadyH.nil
 go_simp
 go_at_call 44
 refine (writeString_calls (hasB97 _) v HW.out (by omega) hz.out).mono ?_
 rintro e w7 ⟨rfl, h7, k7⟩
 refine hK.out _ _ trivial (fun hHeld => ?_)
 clear hK K
 (try simp only [Act.put, zq1, zq2, zq3, zq4, zq5, zq6])
 refine wpAnyH_done (by kernel_rfl) ?_ _
 go_wp2_with fail
 go_end0
 exact ⟨rfl, by rw [← show v.data.toList = sgnB n from HVB.out]; exact h7, (KeepB.of_below HB4.out).trans k7⟩
def txtB (s : ByteArray) : List UInt8 := numB s.size ++ s.data.toList
set_option maxHeartbeats 4000000 in
set_option maxRecDepth 100000 in
theorem text_calls (s : ByteArray) (h : IsW B b bs wr w) (hlen : bs.length + (s.size + 10) ≤ 140737488355328) (hBw : B ≤ w.heap.size) :
  Calls Try.prog 103 #[.pointer (some ⟨b, 0, none⟩), .string s] w fun e w' => e = .returned (.tuple #[]) ∧ IsW B b (bs ++ txtB s) (wr || noB s.size) w' ∧ KeepB B b w w' := by
 have HX := Lib.hid h
 clear h
 go_enter Try.func103, Try.ntmps103
 go_wp2_with fail
 refine (uint_calls (s.size : Int) HX.out (by omega) hBw).mono ?_
 rintro e w1 ⟨rfl, h1, k1⟩
 have H1 := Lib.hid h1
 have K1 := Lib.hid k1
 have z1 := Nat.le_trans hBw k1.size
 have hn := numB_len (s.size : Int)
 clear h1 k1
 go_wp2_with fail
 refine (writeString_calls (hasB97 _) s H1.out (by rw [List.length_append]; omega) z1).mono ?_
 rintro e w7 ⟨rfl, h7, k7⟩
 go_wp2_with fail
 go_end0
 exact ⟨rfl, by unfold txtB; rw [← List.append_assoc]; exact h7, K1.out.trans k7⟩
end Go.Proofs.Ytdjpelcdijpihaa.PrintF
