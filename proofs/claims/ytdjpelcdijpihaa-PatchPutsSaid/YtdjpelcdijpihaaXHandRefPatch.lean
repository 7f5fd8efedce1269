/- A part of the proof of the claim: what it uses of the text HandRefPatch. -/
import Derived.Test.YtdjpelcdijpihaaShort
import Derived.Test.YtdjpelcdijpihaaXPrintF4
import Derived.Test.YtdjpelcdijpihaaXPrintF5
import Derived.Test.YtdjpelcdijpihaaXHandRefE
import Derived.Test.YtdjpelcdijpihaaXHandPut
namespace Go.Proofs.Ytdjpelcdijpihaa.PrintF
open Go.RowKit Go.Proofs.Ytdjpelcdijpihaa.Print Go.Proofs.YtdjpelcdijpihaaW.PrintWords Go.Proofs.YtdjpelcdijpihaaW.PrintLast Go.Lib
set_option linter.unusedVariables false
set_option linter.unusedSimpArgs false
def tailR (sum len way : Int) (p : ByteArray) : Option (ByteArray × Int) := dioramaref04_Put.f (p.size + 2000) ⟨#[68, 73, 79, 80]⟩ 2 [⟨1, firstP sum len way⟩, ⟨2, p⟩]
theorem cells61 {w0 W : World} {g : Nat} {a b c d e : Value} (h : Hid (W.heap[g]? = some (.cells #[a, b, c, d, e] 61 (0, 0)) ∧ Below w0.heap.size w0 W)) :
  W.cell? ⟨g, 0, none⟩ = some a ∧ W.cell? ⟨g, 1, none⟩ = some b ∧ W.cell? ⟨g, 2, none⟩ = some c ∧ W.cell? ⟨g, 3, none⟩ = some d ∧ W.cell? ⟨g, 4, none⟩ = some e :=
 ⟨(blk_cell h.out.1 0).trans rfl, (blk_cell h.out.1 1).trans rfl, (blk_cell h.out.1 2).trans rfl, (blk_cell h.out.1 3).trans rfl, (blk_cell h.out.1 4).trans rfl⟩
set_option maxHeartbeats 8000000 in
set_option maxRecDepth 100000 in
theorem rput_way0 (sum len way : Int) (A3 : Option Addr) (c3 : Nat) (ops : List S107) (file : ByteArray) (w0 : World) (h : way < 0) :
  Calls Try.prog 38 #[.agg #[.int .u32 sum, .int .i64 len, .int .i64 way, .slice A3 ops.length c3, .string file]] w0 fun e w' => e = .returned (.tuple #[.string ⟨#[]⟩, .int .i64 1]) ∧ Below w0.heap.size w0 w' := by
 have t1 : decide (way < 0) = true := decide_eq_true (h)
 clear h
 go_enter Try.func38, Try.ntmps38
 go_wp2_with fail
 go_ret2
 exact ⟨rfl, (Below.refl _ _).alloc (Nat.le_refl _) _⟩
set_option maxHeartbeats 8000000 in
set_option maxRecDepth 100000 in
theorem rput_way3 (sum len way : Int) (A3 : Option Addr) (c3 : Nat) (ops : List S107) (file : ByteArray) (w0 : World) (h : 2 < way) :
  Calls Try.prog 38 #[.agg #[.int .u32 sum, .int .i64 len, .int .i64 way, .slice A3 ops.length c3, .string file]] w0 fun e w' => e = .returned (.tuple #[.string ⟨#[]⟩, .int .i64 1]) ∧ Below w0.heap.size w0 w' := by
 have t1 : decide (way < 0) = false := decide_eq_false (by omega)
 have t2 : decide (2 < way) = true := decide_eq_true (h)
 clear h
 go_enter Try.func38, Try.ntmps38
 go_wp2_with fail
 go_ret2
 exact ⟨rfl, (Below.refl _ _).alloc (Nat.le_refl _) _⟩
set_option maxHeartbeats 8000000 in
set_option maxRecDepth 100000 in
theorem rput_len0 (sum len way : Int) (A3 : Option Addr) (c3 : Nat) (ops : List S107) (file : ByteArray) (w0 : World) (hw : 0 ≤ way ∧ way ≤ 2) (h : len < 0) :
  Calls Try.prog 38 #[.agg #[.int .u32 sum, .int .i64 len, .int .i64 way, .slice A3 ops.length c3, .string file]] w0 fun e w' => e = .returned (.tuple #[.string ⟨#[]⟩, .int .i64 1]) ∧ Below w0.heap.size w0 w' := by
 have t1 : decide (way < 0) = false := decide_eq_false (by omega)
 have t2 : decide (2 < way) = false := decide_eq_false (by omega)
 have t3 : decide (len < 0) = true := decide_eq_true (h)
 clear h hw
 go_enter Try.func38, Try.ntmps38
 go_wp2_with fail
 go_ret2
 exact ⟨rfl, (Below.refl _ _).alloc (Nat.le_refl _) _⟩
set_option maxHeartbeats 8000000 in
set_option maxRecDepth 100000 in
theorem rput_lenm (sum len way : Int) (A3 : Option Addr) (c3 : Nat) (ops : List S107) (file : ByteArray) (w0 : World) (hw : 0 ≤ way ∧ way ≤ 2) (h : 4294967295 < len) :
  Calls Try.prog 38 #[.agg #[.int .u32 sum, .int .i64 len, .int .i64 way, .slice A3 ops.length c3, .string file]] w0 fun e w' => e = .returned (.tuple #[.string ⟨#[]⟩, .int .i64 1]) ∧ Below w0.heap.size w0 w' := by
 have t1 : decide (way < 0) = false := decide_eq_false (by omega)
 have t2 : decide (2 < way) = false := decide_eq_false (by omega)
 have t3 : decide (len < 0) = false := decide_eq_false (by omega)
 have t4 : decide (4294967295 < len) = true := decide_eq_true (h)
 clear h hw
 go_enter Try.func38, Try.ntmps38
 go_wp2_with fail
 go_ret2
 exact ⟨rfl, (Below.refl _ _).alloc (Nat.le_refl _) _⟩
set_option maxHeartbeats 8000000 in
set_option maxRecDepth 100000 in
theorem rput_opsm (sum len way : Int) (A3 : Option Addr) (c3 : Nat) (ops : List S107) (file : ByteArray) (w0 : World) (hw : 0 ≤ way ∧ way ≤ 2) (hl : 0 ≤ len ∧ len ≤ 4294967295) (ho : 0 < ops.length) (h : way ≠ 1) :
  Calls Try.prog 38 #[.agg #[.int .u32 sum, .int .i64 len, .int .i64 way, .slice A3 ops.length c3, .string file]] w0 fun e w' => e = .returned (.tuple #[.string ⟨#[]⟩, .int .i64 1]) ∧ Below w0.heap.size w0 w' := by
 have t1 : decide (way < 0) = false := decide_eq_false (by omega)
 have t2 : decide (2 < way) = false := decide_eq_false (by omega)
 have t3 : decide (len < 0) = false := decide_eq_false (by omega)
 have t4 : decide (4294967295 < len) = false := decide_eq_false (by omega)
 have t5 : decide (0 < ops.length) = true := decide_eq_true (ho)
 have t6 : (way != 1) = true := bne_iff_ne.mpr h
 clear h hw hl ho
 go_enter Try.func38, Try.ntmps38
 go_wp2_with fail
 go_ret2
 exact ⟨rfl, (Below.refl _ _).alloc (Nat.le_refl _) _⟩
set_option maxHeartbeats 8000000 in
set_option maxRecDepth 100000 in
theorem rput_file1 (sum len : Int) (A3 : Option Addr) (c3 : Nat) (ops : List S107) (file : ByteArray) (w0 : World) (hl : 0 ≤ len ∧ len ≤ 4294967295) (hf : file.toList.isEmpty = false) :
  Calls Try.prog 38 #[.agg #[.int .u32 sum, .int .i64 len, .int .i64 1, .slice A3 ops.length c3, .string file]] w0 fun e w' => e = .returned (.tuple #[.string ⟨#[]⟩, .int .i64 1]) ∧ Below w0.heap.size w0 w' := by
 have t3 : decide (len < 0) = false := decide_eq_false (by omega)
 have t4 : decide (4294967295 < len) = false := decide_eq_false (by omega)
 clear hl
 go_enter Try.func38, Try.ntmps38
 go_wp2_with fail
 go_ret2
 exact ⟨rfl, (Below.refl _ _).alloc (Nat.le_refl _) _⟩
set_option maxHeartbeats 8000000 in
set_option maxRecDepth 100000 in
theorem rput_file0 (sum len : Int) (A3 : Option Addr) (c3 : Nat) (file : ByteArray) (w0 : World) (hl : 0 ≤ len ∧ len ≤ 4294967295) (hf : file.toList.isEmpty = false) :
  Calls Try.prog 38 #[.agg #[.int .u32 sum, .int .i64 len, .int .i64 0, .slice A3 0 c3, .string file]] w0 fun e w' => e = .returned (.tuple #[.string ⟨#[]⟩, .int .i64 1]) ∧ Below w0.heap.size w0 w' := by
 have t3 : decide (len < 0) = false := decide_eq_false (by omega)
 have t4 : decide (4294967295 < len) = false := decide_eq_false (by omega)
 clear hl
 go_enter Try.func38, Try.ntmps38
 go_wp2_with fail
 go_ret2
 exact ⟨rfl, (Below.refl _ _).alloc (Nat.le_refl _) _⟩
set_option maxHeartbeats 8000000 in
set_option maxRecDepth 100000 in
theorem rput_w0 (sum len : Int) (A3 : Option Addr) (c3 : Nat) (file : ByteArray) (w0 : World) (hl : 0 ≤ len ∧ len ≤ 4294967295) (hs : 0 ≤ sum ∧ sum ≤ 4294967295) (hf : file.toList.isEmpty = true) (rb : ByteArray) (re : Int) (hres : tailR sum len 0 file = some (rb, re)) :
  Calls Try.prog 38 #[.agg #[.int .u32 sum, .int .i64 len, .int .i64 0, .slice A3 0 c3, .string file]] w0 fun e w' => e = .returned (.tuple #[.string rb, .int .i64 re]) ∧ Below w0.heap.size w0 w' := by
 have t3 : decide (len < 0) = false := decide_eq_false (by omega)
 have t4 : decide (4294967295 < len) = false := decide_eq_false (by omega)
 have SB := Lib.hid hs
 have hw : (0 : Int) ≤ 0 ∧ (0 : Int) ≤ 2 := by decide
 have HRES := Lib.hid hres
 clear hres hs
 have BY_ : Hid ((w0.alloc (.cells #[.int .u32 sum, .int .i64 len, .int .i64 0, .slice A3 0 c3, .string file] 61)).heap[w0.heap.size]? = some (.cells #[.int .u32 sum, .int .i64 len, .int .i64 0, .slice A3 0 c3, .string file] 61 (0, 0)) ∧ Below w0.heap.size w0 (w0.alloc (.cells #[.int .u32 sum, .int .i64 len, .int .i64 0, .slice A3 0 c3, .string file] 61))) := Lib.hid ⟨heap_alloc_new w0 _, (Below.refl _ _).alloc (Nat.le_refl _) _⟩
 go_enter Try.func38, Try.ntmps38
 go_wp2_with fail
 generalize w0.alloc (.cells #[.int .u32 sum, .int .i64 len, .int .i64 0, .slice A3 0 c3, .string file] 61) = W at BY_ ⊢
 obtain ⟨g, hgX⟩ : ∃ g, g = w0.heap.size := ⟨_, rfl⟩
 rw [← hgX]
 have BX_ : Hid (W.heap[g]? = some (.cells #[.int .u32 sum, .int .i64 len, .int .i64 0, .slice A3 0 c3, .string file] 61 (0, 0)) ∧ Below w0.heap.size w0 W) := by rw [hgX]; exact BY_
 clear BY_ hgX
 obtain ⟨v1, hv1⟩ : ∃ v, v = strOfNums (Pure.le4 sum) := ⟨_, rfl⟩
 obtain ⟨v2, hv2⟩ : ∃ v, v = strOfNums (Pure.le4 len) := ⟨_, rfl⟩
 obtain ⟨v3, hv3⟩ : ∃ v, v = strOfNums [0] := ⟨_, rfl⟩
 have hs1 : v1.size = 4 := by rw [hv1, strOfNums_size]; rfl
 have hs2 : v2.size = 4 := by rw [hv2, strOfNums_size]; rfl
 have hs3 : v3.size = 1 := by rw [hv3, strOfNums_size]; rfl
 have x1 : (9223372036854775807 < v1.size + v2.size) = False := eq_false (by omega)
 have x2 : (9223372036854775807 < v1.size + v2.size + v3.size) = False := eq_false (by omega)
 have HV1 : Hid (dioramaref03_Put.f 5 sum = some v1) := Lib.hid (by rw [hv1]; exact Pure.refPut_eq 5 sum SB.out (by omega))
 have HV2 : Hid (dioramaref03_Put.f 5 len = some v2) := Lib.hid (by rw [hv2]; exact Pure.refPut_eq 5 len hl (by omega))
 have HFI : Hid (firstP sum len 0 = v1 ++ v2 ++ v3) := Lib.hid (by rw [hv1, hv2, hv3]; rfl)
 have HV3 := Lib.hid hv3
 clear hv1 hv2 hv3 hs1 hs2 hs3
 have hw3 : IntKind.u32.wrap len = len := by rw [IntKind.wrap_u32]; omega
 have hw5 : IntKind.u8.wrap 0 = 0 := by rw [IntKind.wrap_u8]; omega
 have hu5 := Try.underlying5
 have hu72 := Try.underlying72
 have hu9 := Try.underlying9
 have BD := Lib.hid (show _ ∧ _ from (⟨blk_drew BX_.out.1, below_drew1 BX_.out.2⟩ : _ ∧ Below w0.heap.size w0 _))
 obtain ⟨d0, d1, d2, _, _⟩ := cells61 BD
 refine wp_region_held_drew (S := fun w' => w'.cell? ⟨g, 0, none⟩ = some (.int .u32 sum) ∧ w'.cell? ⟨g, 1, none⟩ = some (.int .i64 len) ∧ w'.cell? ⟨g, 2, none⟩ = some (.int .i64 0)) (by kernel_rfl) ⟨d0, d1, d2⟩ (fun hHeld => ?_)
 clear d0 d1 d2 BX_
 have BX_ := BD
 clear BD
 generalize W.drew = W1 at BX_ hHeld ⊢
 refine tkz 0 rfl ?_ (.inl ⟨by rfl, ?_⟩) ?_
 rotate_left 1
 ·intro w hSw
  obtain ⟨s0, s1, s2⟩ := hSw
  go_simp
  (try with_reducible rfl)
 (try simp only [Act.put, zq1, zq2, zq3, zq4, zq5, zq6])
 refine tkz 1 rfl ?_ (.inl ⟨by rfl, ?_⟩) ?_
 rotate_left 1
 ·intro w hSw
  obtain ⟨s0, s1, s2⟩ := hSw
  go_simp
  (try with_reducible rfl)
 (try simp only [Act.put, zq1, zq2, zq3, zq4, zq5, zq6])
 refine tkz 3 rfl ?_ (.inl ⟨by rfl, ?_⟩) ?_
 rotate_left 1
 ·intro w hSw
  obtain ⟨s0, s1, s2⟩ := hSw
  go_simp
  (try with_reducible rfl)
 (try simp only [Act.put, zq1, zq2, zq3, zq4, zq5, zq6])
 refine tkz 4 rfl ?_ (.inl ⟨by rfl, ?_⟩) ?_
 rotate_left 1
 ·intro w hSw
  obtain ⟨s0, s1, s2⟩ := hSw
  go_simp
  (try with_reducible rfl)
 (try simp only [Act.put, zq1, zq2, zq3, zq4, zq5, zq6])
 refine tkz 5 rfl ?_ (.inl ⟨by rfl, ?_⟩) ?_
 rotate_left 1
 ·intro w hSw
  obtain ⟨s0, s1, s2⟩ := hSw
  go_simp
  (try with_reducible rfl)
 (try simp only [Act.put, zq1, zq2, zq3, zq4, zq5, zq6])
 refine tkz 8 rfl ?_ (.inl ⟨by rfl, ?_⟩) ?_
 rotate_left 1
 ·intro w hSw
  obtain ⟨s0, s1, s2⟩ := hSw
  go_simp
  (try with_reducible rfl)
 (try simp only [Act.put, zq1, zq2, zq3, zq4, zq5, zq6])
 refine tkz 9 rfl ?_ (.inl ⟨by rfl, ?_⟩) ?_
 rotate_left 1
 ·intro w hSw
  obtain ⟨s0, s1, s2⟩ := hSw
  go_simp
  (try with_reducible rfl)
 (try simp only [Act.put, zq1, zq2, zq3, zq4, zq5, zq6])
 refine tkz 10 rfl ?_ (.inl ⟨by rfl, ?_⟩) ?_
 rotate_left 1
 ·intro w hSw
  obtain ⟨s0, s1, s2⟩ := hSw
  go_simp
  (try with_reducible rfl)
 (try simp only [Act.put, zq1, zq2, zq3, zq4, zq5, zq6])
 refine wpAnyH_ready (rs := [2, 11]) (by kernel_rfl) (by simp) ?_
 refine AllReadyH.cons (o := _) rfl (fun K hK => ?_) (AllReadyH.cons (o := _) rfl (fun K hK => ?_) AllReadyH.nil)
 ·skip
  go_simp
  go_at_call 25
  refine (dioramaref03_Put.calls 5 sum v1 _ HV1.out).mono ?_
  rintro e w_1 ⟨rfl, hb_⟩
  have BY := boxT BX_ hb_
  obtain ⟨d0, d1, d2, _, _⟩ := cells61 BY
  refine hK.out _ _ ⟨d0, d1, d2⟩ (fun hHeld => ?_)
  clear hK K d0 d1 d2 BX_
  have BX_ := BY
  clear BY
  (try simp only [Act.put, zq1, zq2, zq3, zq4, zq5, zq6])
  refine wpAnyH_ready (rs := [6, 11]) (by kernel_rfl) (by simp) ?_
  refine AllReadyH.cons (o := _) rfl (fun K hK => ?_) (AllReadyH.cons (o := _) rfl (fun K hK => ?_) AllReadyH.nil)
  ·skip
   go_simp
   go_at_call 25
   refine (dioramaref03_Put.calls 5 len v2 _ HV2.out).mono ?_
   rintro e w_2 ⟨rfl, hb_⟩
   have BY := boxT BX_ hb_
   obtain ⟨d0, d1, d2, _, _⟩ := cells61 BY
   refine hK.out _ _ ⟨d0, d1, d2⟩ (fun hHeld => ?_)
   clear hK K d0 d1 d2 BX_
   have BX_ := BY
   clear BY
   (try simp only [Act.put, zq1, zq2, zq3, zq4, zq5, zq6])
   refine tkz 7 rfl ?_ (.inl ⟨by rfl, ?_⟩) ?_
   rotate_left 1
   ·intro w hSw
    obtain ⟨s0, s1, s2⟩ := hSw
    go_simp
    (try with_reducible rfl)
   (try simp only [Act.put, zq1, zq2, zq3, zq4, zq5, zq6])
   refine wpAnyH_ready (rs := [11]) (by kernel_rfl) (by simp) ?_
   refine AllReadyH.cons (o := _) rfl (fun K hK => ?_) AllReadyH.nil
   go_simp
   have BY := boxT BX_ (below_alloc (Below.refl _ w_2) (.cells #[.int .u8 0] 5))
   have CX := Lib.hid (one_C (heap_alloc_new w_2 (.cells #[.int .u8 0] 5)))
   generalize w_2.alloc (.cells #[.int .u8 0] 5) = w_3 at BY CX ⊢
   obtain ⟨d0, d1, d2, _, _⟩ := cells61 BY
   refine hK.out _ _ ⟨d0, d1, d2⟩ (fun hHeld => ?_)
   clear hK K d0 d1 d2 BX_
   have BX_ := BY
   clear BY
   (try simp only [Act.put, zq1, zq2, zq3, zq4, zq5, zq6])
   refine wpAnyH_ready (rs := [12]) (by kernel_rfl) (by simp) ?_
   refine AllReadyH.cons (o := _) rfl (fun K hK => ?_) AllReadyH.nil
   have cv := Kd.C_string (P := Try.prog) (src := 72) (dst := 9) (e := 5) (c := 1) Try.underlying72 Try.underlying5 Try.underlying9 CX.out
   rw [← HV3.out] at cv
   go_simp
   have BY := BX_
   clear cv
   obtain ⟨d0, d1, d2, _, _⟩ := cells61 BY
   refine hK.out _ _ ⟨d0, d1, d2⟩ (fun hHeld => ?_)
   clear hK K d0 d1 d2 BX_
   have BX_ := BY
   clear BY
   (try simp only [Act.put, zq1, zq2, zq3, zq4, zq5, zq6])
   refine tkz 13 rfl ?_ (.inl ⟨by rfl, ?_⟩) ?_
   rotate_left 1
   ·intro w hSw
    obtain ⟨s0, s1, s2⟩ := hSw
    go_simp
    (try with_reducible rfl)
   (try simp only [Act.put, zq1, zq2, zq3, zq4, zq5, zq6])
   refine tkz 14 rfl ?_ (.inl ⟨by rfl, ?_⟩) ?_
   rotate_left 1
   ·intro w hSw
    obtain ⟨s0, s1, s2⟩ := hSw
    go_simp
    (try with_reducible rfl)
   (try simp only [Act.put, zq1, zq2, zq3, zq4, zq5, zq6])
   refine wpAnyH_done (by kernel_rfl) ?_ _
   obtain ⟨y, hy⟩ : ∃ y : List S52, y = [(⟨1, v1 ++ v2 ++ v3⟩ : S52), (⟨2, file⟩ : S52)] := ⟨_, rfl⟩
   have HRES2 : Hid (dioramaref04_Put.f (file.size + 2000) (⟨#[68, 73, 79, 80]⟩ : ByteArray) 2 y = some (rb, re)) := by rw [hy, ← HFI.out]; exact HRES
   have Ny := Lib.hid hy
   clear hy
   go_wp2_with (first | ((with_reducible refine gate_dst (N := 94) rfl ?_); refine Kd.R_lit k52 _ 52 ?hg (N := 94) ?hd (xs := ([(⟨1, v1 ++ v2 ++ v3⟩ : S52), (⟨2, file⟩ : S52)] : List S52)) (inner := [.int .i64 1, .string (v1 ++ v2 ++ v3), .int .i64 2, .string file]) (ok := fun _ => True) (okp := fun _ => True) ?hr ?hp (fun _ hk => hk) trivial (Below.refl _ _) (Nat.le_refl _) (by simp) ?_; (case hd => rfl); (case hg => rfl); (case hr => first | (go_simp; done) | (go_simp; rfl)); (case hp => exact (Reps.c2 (show Kd.M k52 _ _ _ (⟨1, v1 ++ v2 ++ v3⟩ : S52) [.int .i64 1, .string (v1 ++ v2 ++ v3)] from (k52_mkM _ _ _ (⟨1, v1 ++ v2 ++ v3⟩ : S52))) (Reps.c2 (show Kd.M k52 _ _ _ (⟨2, file⟩ : S52) [.int .i64 2, .string file] from (k52_mkM _ _ _ (⟨2, file⟩ : S52))) (Reps.none _ _)))); intro v231 w36 ho37 hb36 hg_ hnew_; clear hg_ hnew_; rw [← Ny.out] at ho37; have HB36 := Lib.hid (below_step BX_.out.2 hb36); obtain ⟨Ao, co, eo⟩ := Kd.R_slice ho37; subst eo; have HRo := Lib.hid ho37; clear ho37 hb36) | (go_at_call 31; (with_reducible refine (dioramaref04_Put.calls _ (⟨#[68, 73, 79, 80]⟩ : ByteArray) 2 _ _ y rb re _ ?side1 ?side2 HRES2.out).mono ?_); (case side1 => exact (Kd.R_reads' HRo.out).2.2); (case side2 => exact (Kd.R_reads' HRo.out).2.1); rintro e w39 ⟨rfl, hb39⟩))
   go_ret2
   exact ⟨rfl, below_step HB36.out hb39⟩
  ·skip
   go_simp
   have BY := boxT BX_ (below_alloc (Below.refl _ w_1) (.cells #[.int .u8 0] 5))
   have CX := Lib.hid (one_C (heap_alloc_new w_1 (.cells #[.int .u8 0] 5)))
   generalize w_1.alloc (.cells #[.int .u8 0] 5) = w_5 at BY CX ⊢
   obtain ⟨d0, d1, d2, _, _⟩ := cells61 BY
   refine hK.out _ _ ⟨d0, d1, d2⟩ (fun hHeld => ?_)
   clear hK K d0 d1 d2 BX_
   have BX_ := BY
   clear BY
   (try simp only [Act.put, zq1, zq2, zq3, zq4, zq5, zq6])
   refine wpAnyH_ready (rs := [6, 12]) (by kernel_rfl) (by simp) ?_
   refine AllReadyH.cons (o := _) rfl (fun K hK => ?_) (AllReadyH.cons (o := _) rfl (fun K hK => ?_) AllReadyH.nil)
   ·skip
    go_simp
    go_at_call 25
    refine (dioramaref03_Put.calls 5 len v2 _ HV2.out).mono ?_
    rintro e w_6 ⟨rfl, hb_⟩
    have BY := boxT BX_ hb_
    have CX2 := Lib.hid (Kd.C_below CX.out hb_)
    clear CX
    have CX := CX2
    clear CX2
    obtain ⟨d0, d1, d2, _, _⟩ := cells61 BY
    refine hK.out _ _ ⟨d0, d1, d2⟩ (fun hHeld => ?_)
    clear hK K d0 d1 d2 BX_
    have BX_ := BY
    clear BY
    (try simp only [Act.put, zq1, zq2, zq3, zq4, zq5, zq6])
    refine tkz 7 rfl ?_ (.inl ⟨by rfl, ?_⟩) ?_
    rotate_left 1
    ·intro w hSw
     obtain ⟨s0, s1, s2⟩ := hSw
     go_simp
     (try with_reducible rfl)
    (try simp only [Act.put, zq1, zq2, zq3, zq4, zq5, zq6])
    refine wpAnyH_ready (rs := [12]) (by kernel_rfl) (by simp) ?_
    refine AllReadyH.cons (o := _) rfl (fun K hK => ?_) AllReadyH.nil
    have cv := Kd.C_string (P := Try.prog) (src := 72) (dst := 9) (e := 5) (c := 1) Try.underlying72 Try.underlying5 Try.underlying9 CX.out
    rw [← HV3.out] at cv
    go_simp
    have BY := BX_
    clear cv
    obtain ⟨d0, d1, d2, _, _⟩ := cells61 BY
    refine hK.out _ _ ⟨d0, d1, d2⟩ (fun hHeld => ?_)
    clear hK K d0 d1 d2 BX_
    have BX_ := BY
    clear BY
    (try simp only [Act.put, zq1, zq2, zq3, zq4, zq5, zq6])
    refine tkz 13 rfl ?_ (.inl ⟨by rfl, ?_⟩) ?_
    rotate_left 1
    ·intro w hSw
     obtain ⟨s0, s1, s2⟩ := hSw
     go_simp
     (try with_reducible rfl)
    (try simp only [Act.put, zq1, zq2, zq3, zq4, zq5, zq6])
    refine tkz 14 rfl ?_ (.inl ⟨by rfl, ?_⟩) ?_
    rotate_left 1
    ·intro w hSw
     obtain ⟨s0, s1, s2⟩ := hSw
     go_simp
     (try with_reducible rfl)
    (try simp only [Act.put, zq1, zq2, zq3, zq4, zq5, zq6])
    refine wpAnyH_done (by kernel_rfl) ?_ _
    obtain ⟨y, hy⟩ : ∃ y : List S52, y = [(⟨1, v1 ++ v2 ++ v3⟩ : S52), (⟨2, file⟩ : S52)] := ⟨_, rfl⟩
    have HRES2 : Hid (dioramaref04_Put.f (file.size + 2000) (⟨#[68, 73, 79, 80]⟩ : ByteArray) 2 y = some (rb, re)) := by rw [hy, ← HFI.out]; exact HRES
    have Ny := Lib.hid hy
    clear hy
    go_wp2_with (first | ((with_reducible refine gate_dst (N := 94) rfl ?_); refine Kd.R_lit k52 _ 52 ?hg (N := 94) ?hd (xs := ([(⟨1, v1 ++ v2 ++ v3⟩ : S52), (⟨2, file⟩ : S52)] : List S52)) (inner := [.int .i64 1, .string (v1 ++ v2 ++ v3), .int .i64 2, .string file]) (ok := fun _ => True) (okp := fun _ => True) ?hr ?hp (fun _ hk => hk) trivial (Below.refl _ _) (Nat.le_refl _) (by simp) ?_; (case hd => rfl); (case hg => rfl); (case hr => first | (go_simp; done) | (go_simp; rfl)); (case hp => exact (Reps.c2 (show Kd.M k52 _ _ _ (⟨1, v1 ++ v2 ++ v3⟩ : S52) [.int .i64 1, .string (v1 ++ v2 ++ v3)] from (k52_mkM _ _ _ (⟨1, v1 ++ v2 ++ v3⟩ : S52))) (Reps.c2 (show Kd.M k52 _ _ _ (⟨2, file⟩ : S52) [.int .i64 2, .string file] from (k52_mkM _ _ _ (⟨2, file⟩ : S52))) (Reps.none _ _)))); intro v231 w36 ho37 hb36 hg_ hnew_; clear hg_ hnew_; rw [← Ny.out] at ho37; have HB36 := Lib.hid (below_step BX_.out.2 hb36); obtain ⟨Ao, co, eo⟩ := Kd.R_slice ho37; subst eo; have HRo := Lib.hid ho37; clear ho37 hb36) | (go_at_call 31; (with_reducible refine (dioramaref04_Put.calls _ (⟨#[68, 73, 79, 80]⟩ : ByteArray) 2 _ _ y rb re _ ?side1 ?side2 HRES2.out).mono ?_); (case side1 => exact (Kd.R_reads' HRo.out).2.2); (case side2 => exact (Kd.R_reads' HRo.out).2.1); rintro e w39 ⟨rfl, hb39⟩))
    go_ret2
    exact ⟨rfl, below_step HB36.out hb39⟩
   ·skip
    have cv := Kd.C_string (P := Try.prog) (src := 72) (dst := 9) (e := 5) (c := 1) Try.underlying72 Try.underlying5 Try.underlying9 CX.out
    rw [← HV3.out] at cv
    go_simp
    have BY := BX_
    clear cv
    obtain ⟨d0, d1, d2, _, _⟩ := cells61 BY
    refine hK.out _ _ ⟨d0, d1, d2⟩ (fun hHeld => ?_)
    clear hK K d0 d1 d2 BX_
    have BX_ := BY
    clear BY
    (try simp only [Act.put, zq1, zq2, zq3, zq4, zq5, zq6])
    refine wpAnyH_ready (rs := [6]) (by kernel_rfl) (by simp) ?_
    refine AllReadyH.cons (o := _) rfl (fun K hK => ?_) AllReadyH.nil
    go_simp
    go_at_call 25
    refine (dioramaref03_Put.calls 5 len v2 _ HV2.out).mono ?_
    rintro e w_9 ⟨rfl, hb_⟩
    have BY := boxT BX_ hb_
    have CX2 := Lib.hid (Kd.C_below CX.out hb_)
    clear CX
    have CX := CX2
    clear CX2
    obtain ⟨d0, d1, d2, _, _⟩ := cells61 BY
    refine hK.out _ _ ⟨d0, d1, d2⟩ (fun hHeld => ?_)
    clear hK K d0 d1 d2 BX_
    have BX_ := BY
    clear BY
    (try simp only [Act.put, zq1, zq2, zq3, zq4, zq5, zq6])
    refine tkz 7 rfl ?_ (.inl ⟨by rfl, ?_⟩) ?_
    rotate_left 1
    ·intro w hSw
     obtain ⟨s0, s1, s2⟩ := hSw
     go_simp
     (try with_reducible rfl)
    (try simp only [Act.put, zq1, zq2, zq3, zq4, zq5, zq6])
    refine tkz 13 rfl ?_ (.inl ⟨by rfl, ?_⟩) ?_
    rotate_left 1
    ·intro w hSw
     obtain ⟨s0, s1, s2⟩ := hSw
     go_simp
     (try with_reducible rfl)
    (try simp only [Act.put, zq1, zq2, zq3, zq4, zq5, zq6])
    refine tkz 14 rfl ?_ (.inl ⟨by rfl, ?_⟩) ?_
    rotate_left 1
    ·intro w hSw
     obtain ⟨s0, s1, s2⟩ := hSw
     go_simp
     (try with_reducible rfl)
    (try simp only [Act.put, zq1, zq2, zq3, zq4, zq5, zq6])
    refine wpAnyH_done (by kernel_rfl) ?_ _
    obtain ⟨y, hy⟩ : ∃ y : List S52, y = [(⟨1, v1 ++ v2 ++ v3⟩ : S52), (⟨2, file⟩ : S52)] := ⟨_, rfl⟩
    have HRES2 : Hid (dioramaref04_Put.f (file.size + 2000) (⟨#[68, 73, 79, 80]⟩ : ByteArray) 2 y = some (rb, re)) := by rw [hy, ← HFI.out]; exact HRES
    have Ny := Lib.hid hy
    clear hy
    go_wp2_with (first | ((with_reducible refine gate_dst (N := 94) rfl ?_); refine Kd.R_lit k52 _ 52 ?hg (N := 94) ?hd (xs := ([(⟨1, v1 ++ v2 ++ v3⟩ : S52), (⟨2, file⟩ : S52)] : List S52)) (inner := [.int .i64 1, .string (v1 ++ v2 ++ v3), .int .i64 2, .string file]) (ok := fun _ => True) (okp := fun _ => True) ?hr ?hp (fun _ hk => hk) trivial (Below.refl _ _) (Nat.le_refl _) (by simp) ?_; (case hd => rfl); (case hg => rfl); (case hr => first | (go_simp; done) | (go_simp; rfl)); (case hp => exact (Reps.c2 (show Kd.M k52 _ _ _ (⟨1, v1 ++ v2 ++ v3⟩ : S52) [.int .i64 1, .string (v1 ++ v2 ++ v3)] from (k52_mkM _ _ _ (⟨1, v1 ++ v2 ++ v3⟩ : S52))) (Reps.c2 (show Kd.M k52 _ _ _ (⟨2, file⟩ : S52) [.int .i64 2, .string file] from (k52_mkM _ _ _ (⟨2, file⟩ : S52))) (Reps.none _ _)))); intro v231 w36 ho37 hb36 hg_ hnew_; clear hg_ hnew_; rw [← Ny.out] at ho37; have HB36 := Lib.hid (below_step BX_.out.2 hb36); obtain ⟨Ao, co, eo⟩ := Kd.R_slice ho37; subst eo; have HRo := Lib.hid ho37; clear ho37 hb36) | (go_at_call 31; (with_reducible refine (dioramaref04_Put.calls _ (⟨#[68, 73, 79, 80]⟩ : ByteArray) 2 _ _ y rb re _ ?side1 ?side2 HRES2.out).mono ?_); (case side1 => exact (Kd.R_reads' HRo.out).2.2); (case side2 => exact (Kd.R_reads' HRo.out).2.1); rintro e w39 ⟨rfl, hb39⟩))
    go_ret2
    exact ⟨rfl, below_step HB36.out hb39⟩
 ·skip
  go_simp
  have BY := boxT BX_ (below_alloc (Below.refl _ W1) (.cells #[.int .u8 0] 5))
  have CX := Lib.hid (one_C (heap_alloc_new W1 (.cells #[.int .u8 0] 5)))
  generalize W1.alloc (.cells #[.int .u8 0] 5) = w_10 at BY CX ⊢
  obtain ⟨d0, d1, d2, _, _⟩ := cells61 BY
  refine hK.out _ _ ⟨d0, d1, d2⟩ (fun hHeld => ?_)
  clear hK K d0 d1 d2 BX_
  have BX_ := BY
  clear BY
  (try simp only [Act.put, zq1, zq2, zq3, zq4, zq5, zq6])
  refine wpAnyH_ready (rs := [2, 12]) (by kernel_rfl) (by simp) ?_
  refine AllReadyH.cons (o := _) rfl (fun K hK => ?_) (AllReadyH.cons (o := _) rfl (fun K hK => ?_) AllReadyH.nil)
  ·skip
   go_simp
   go_at_call 25
   refine (dioramaref03_Put.calls 5 sum v1 _ HV1.out).mono ?_
   rintro e w_11 ⟨rfl, hb_⟩
   have BY := boxT BX_ hb_
   have CX2 := Lib.hid (Kd.C_below CX.out hb_)
   clear CX
   have CX := CX2
   clear CX2
   obtain ⟨d0, d1, d2, _, _⟩ := cells61 BY
   refine hK.out _ _ ⟨d0, d1, d2⟩ (fun hHeld => ?_)
   clear hK K d0 d1 d2 BX_
   have BX_ := BY
   clear BY
   (try simp only [Act.put, zq1, zq2, zq3, zq4, zq5, zq6])
   refine wpAnyH_ready (rs := [6, 12]) (by kernel_rfl) (by simp) ?_
   refine AllReadyH.cons (o := _) rfl (fun K hK => ?_) (AllReadyH.cons (o := _) rfl (fun K hK => ?_) AllReadyH.nil)
   ·skip
    go_simp
    go_at_call 25
    refine (dioramaref03_Put.calls 5 len v2 _ HV2.out).mono ?_
    rintro e w_12 ⟨rfl, hb_⟩
    have BY := boxT BX_ hb_
    have CX2 := Lib.hid (Kd.C_below CX.out hb_)
    clear CX
    have CX := CX2
    clear CX2
    obtain ⟨d0, d1, d2, _, _⟩ := cells61 BY
    refine hK.out _ _ ⟨d0, d1, d2⟩ (fun hHeld => ?_)
    clear hK K d0 d1 d2 BX_
    have BX_ := BY
    clear BY
    (try simp only [Act.put, zq1, zq2, zq3, zq4, zq5, zq6])
    refine tkz 7 rfl ?_ (.inl ⟨by rfl, ?_⟩) ?_
    rotate_left 1
    ·intro w hSw
     obtain ⟨s0, s1, s2⟩ := hSw
     go_simp
     (try with_reducible rfl)
    (try simp only [Act.put, zq1, zq2, zq3, zq4, zq5, zq6])
    refine wpAnyH_ready (rs := [12]) (by kernel_rfl) (by simp) ?_
    refine AllReadyH.cons (o := _) rfl (fun K hK => ?_) AllReadyH.nil
    have cv := Kd.C_string (P := Try.prog) (src := 72) (dst := 9) (e := 5) (c := 1) Try.underlying72 Try.underlying5 Try.underlying9 CX.out
    rw [← HV3.out] at cv
    go_simp
    have BY := BX_
    clear cv
    obtain ⟨d0, d1, d2, _, _⟩ := cells61 BY
    refine hK.out _ _ ⟨d0, d1, d2⟩ (fun hHeld => ?_)
    clear hK K d0 d1 d2 BX_
    have BX_ := BY
    clear BY
    (try simp only [Act.put, zq1, zq2, zq3, zq4, zq5, zq6])
    refine tkz 13 rfl ?_ (.inl ⟨by rfl, ?_⟩) ?_
    rotate_left 1
    ·intro w hSw
     obtain ⟨s0, s1, s2⟩ := hSw
     go_simp
     (try with_reducible rfl)
    (try simp only [Act.put, zq1, zq2, zq3, zq4, zq5, zq6])
    refine tkz 14 rfl ?_ (.inl ⟨by rfl, ?_⟩) ?_
    rotate_left 1
    ·intro w hSw
     obtain ⟨s0, s1, s2⟩ := hSw
     go_simp
     (try with_reducible rfl)
    (try simp only [Act.put, zq1, zq2, zq3, zq4, zq5, zq6])
    refine wpAnyH_done (by kernel_rfl) ?_ _
    obtain ⟨y, hy⟩ : ∃ y : List S52, y = [(⟨1, v1 ++ v2 ++ v3⟩ : S52), (⟨2, file⟩ : S52)] := ⟨_, rfl⟩
    have HRES2 : Hid (dioramaref04_Put.f (file.size + 2000) (⟨#[68, 73, 79, 80]⟩ : ByteArray) 2 y = some (rb, re)) := by rw [hy, ← HFI.out]; exact HRES
    have Ny := Lib.hid hy
    clear hy
    go_wp2_with (first | ((with_reducible refine gate_dst (N := 94) rfl ?_); refine Kd.R_lit k52 _ 52 ?hg (N := 94) ?hd (xs := ([(⟨1, v1 ++ v2 ++ v3⟩ : S52), (⟨2, file⟩ : S52)] : List S52)) (inner := [.int .i64 1, .string (v1 ++ v2 ++ v3), .int .i64 2, .string file]) (ok := fun _ => True) (okp := fun _ => True) ?hr ?hp (fun _ hk => hk) trivial (Below.refl _ _) (Nat.le_refl _) (by simp) ?_; (case hd => rfl); (case hg => rfl); (case hr => first | (go_simp; done) | (go_simp; rfl)); (case hp => exact (Reps.c2 (show Kd.M k52 _ _ _ (⟨1, v1 ++ v2 ++ v3⟩ : S52) [.int .i64 1, .string (v1 ++ v2 ++ v3)] from (k52_mkM _ _ _ (⟨1, v1 ++ v2 ++ v3⟩ : S52))) (Reps.c2 (show Kd.M k52 _ _ _ (⟨2, file⟩ : S52) [.int .i64 2, .string file] from (k52_mkM _ _ _ (⟨2, file⟩ : S52))) (Reps.none _ _)))); intro v231 w36 ho37 hb36 hg_ hnew_; clear hg_ hnew_; rw [← Ny.out] at ho37; have HB36 := Lib.hid (below_step BX_.out.2 hb36); obtain ⟨Ao, co, eo⟩ := Kd.R_slice ho37; subst eo; have HRo := Lib.hid ho37; clear ho37 hb36) | (go_at_call 31; (with_reducible refine (dioramaref04_Put.calls _ (⟨#[68, 73, 79, 80]⟩ : ByteArray) 2 _ _ y rb re _ ?side1 ?side2 HRES2.out).mono ?_); (case side1 => exact (Kd.R_reads' HRo.out).2.2); (case side2 => exact (Kd.R_reads' HRo.out).2.1); rintro e w39 ⟨rfl, hb39⟩))
    go_ret2
    exact ⟨rfl, below_step HB36.out hb39⟩
   ·skip
    have cv := Kd.C_string (P := Try.prog) (src := 72) (dst := 9) (e := 5) (c := 1) Try.underlying72 Try.underlying5 Try.underlying9 CX.out
    rw [← HV3.out] at cv
    go_simp
    have BY := BX_
    clear cv
    obtain ⟨d0, d1, d2, _, _⟩ := cells61 BY
    refine hK.out _ _ ⟨d0, d1, d2⟩ (fun hHeld => ?_)
    clear hK K d0 d1 d2 BX_
    have BX_ := BY
    clear BY
    (try simp only [Act.put, zq1, zq2, zq3, zq4, zq5, zq6])
    refine wpAnyH_ready (rs := [6]) (by kernel_rfl) (by simp) ?_
    refine AllReadyH.cons (o := _) rfl (fun K hK => ?_) AllReadyH.nil
    go_simp
    go_at_call 25
    refine (dioramaref03_Put.calls 5 len v2 _ HV2.out).mono ?_
    rintro e w_15 ⟨rfl, hb_⟩
    have BY := boxT BX_ hb_
    have CX2 := Lib.hid (Kd.C_below CX.out hb_)
    clear CX
    have CX := CX2
    clear CX2
    obtain ⟨d0, d1, d2, _, _⟩ := cells61 BY
    refine hK.out _ _ ⟨d0, d1, d2⟩ (fun hHeld => ?_)
    clear hK K d0 d1 d2 BX_
    have BX_ := BY
    clear BY
    (try simp only [Act.put, zq1, zq2, zq3, zq4, zq5, zq6])
    refine tkz 7 rfl ?_ (.inl ⟨by rfl, ?_⟩) ?_
    rotate_left 1
    ·intro w hSw
     obtain ⟨s0, s1, s2⟩ := hSw
     go_simp
     (try with_reducible rfl)
    (try simp only [Act.put, zq1, zq2, zq3, zq4, zq5, zq6])
    refine tkz 13 rfl ?_ (.inl ⟨by rfl, ?_⟩) ?_
    rotate_left 1
    ·intro w hSw
     obtain ⟨s0, s1, s2⟩ := hSw
     go_simp
     (try with_reducible rfl)
    (try simp only [Act.put, zq1, zq2, zq3, zq4, zq5, zq6])
    refine tkz 14 rfl ?_ (.inl ⟨by rfl, ?_⟩) ?_
    rotate_left 1
    ·intro w hSw
     obtain ⟨s0, s1, s2⟩ := hSw
     go_simp
     (try with_reducible rfl)
    (try simp only [Act.put, zq1, zq2, zq3, zq4, zq5, zq6])
    refine wpAnyH_done (by kernel_rfl) ?_ _
    obtain ⟨y, hy⟩ : ∃ y : List S52, y = [(⟨1, v1 ++ v2 ++ v3⟩ : S52), (⟨2, file⟩ : S52)] := ⟨_, rfl⟩
    have HRES2 : Hid (dioramaref04_Put.f (file.size + 2000) (⟨#[68, 73, 79, 80]⟩ : ByteArray) 2 y = some (rb, re)) := by rw [hy, ← HFI.out]; exact HRES
    have Ny := Lib.hid hy
    clear hy
    go_wp2_with (first | ((with_reducible refine gate_dst (N := 94) rfl ?_); refine Kd.R_lit k52 _ 52 ?hg (N := 94) ?hd (xs := ([(⟨1, v1 ++ v2 ++ v3⟩ : S52), (⟨2, file⟩ : S52)] : List S52)) (inner := [.int .i64 1, .string (v1 ++ v2 ++ v3), .int .i64 2, .string file]) (ok := fun _ => True) (okp := fun _ => True) ?hr ?hp (fun _ hk => hk) trivial (Below.refl _ _) (Nat.le_refl _) (by simp) ?_; (case hd => rfl); (case hg => rfl); (case hr => first | (go_simp; done) | (go_simp; rfl)); (case hp => exact (Reps.c2 (show Kd.M k52 _ _ _ (⟨1, v1 ++ v2 ++ v3⟩ : S52) [.int .i64 1, .string (v1 ++ v2 ++ v3)] from (k52_mkM _ _ _ (⟨1, v1 ++ v2 ++ v3⟩ : S52))) (Reps.c2 (show Kd.M k52 _ _ _ (⟨2, file⟩ : S52) [.int .i64 2, .string file] from (k52_mkM _ _ _ (⟨2, file⟩ : S52))) (Reps.none _ _)))); intro v231 w36 ho37 hb36 hg_ hnew_; clear hg_ hnew_; rw [← Ny.out] at ho37; have HB36 := Lib.hid (below_step BX_.out.2 hb36); obtain ⟨Ao, co, eo⟩ := Kd.R_slice ho37; subst eo; have HRo := Lib.hid ho37; clear ho37 hb36) | (go_at_call 31; (with_reducible refine (dioramaref04_Put.calls _ (⟨#[68, 73, 79, 80]⟩ : ByteArray) 2 _ _ y rb re _ ?side1 ?side2 HRES2.out).mono ?_); (case side1 => exact (Kd.R_reads' HRo.out).2.2); (case side2 => exact (Kd.R_reads' HRo.out).2.1); rintro e w39 ⟨rfl, hb39⟩))
    go_ret2
    exact ⟨rfl, below_step HB36.out hb39⟩
  ·skip
   have cv := Kd.C_string (P := Try.prog) (src := 72) (dst := 9) (e := 5) (c := 1) Try.underlying72 Try.underlying5 Try.underlying9 CX.out
   rw [← HV3.out] at cv
   go_simp
   have BY := BX_
   clear cv
   obtain ⟨d0, d1, d2, _, _⟩ := cells61 BY
   refine hK.out _ _ ⟨d0, d1, d2⟩ (fun hHeld => ?_)
   clear hK K d0 d1 d2 BX_
   have BX_ := BY
   clear BY
   (try simp only [Act.put, zq1, zq2, zq3, zq4, zq5, zq6])
   refine wpAnyH_ready (rs := [2]) (by kernel_rfl) (by simp) ?_
   refine AllReadyH.cons (o := _) rfl (fun K hK => ?_) AllReadyH.nil
   go_simp
   go_at_call 25
   refine (dioramaref03_Put.calls 5 sum v1 _ HV1.out).mono ?_
   rintro e w_17 ⟨rfl, hb_⟩
   have BY := boxT BX_ hb_
   have CX2 := Lib.hid (Kd.C_below CX.out hb_)
   clear CX
   have CX := CX2
   clear CX2
   obtain ⟨d0, d1, d2, _, _⟩ := cells61 BY
   refine hK.out _ _ ⟨d0, d1, d2⟩ (fun hHeld => ?_)
   clear hK K d0 d1 d2 BX_
   have BX_ := BY
   clear BY
   (try simp only [Act.put, zq1, zq2, zq3, zq4, zq5, zq6])
   refine wpAnyH_ready (rs := [6]) (by kernel_rfl) (by simp) ?_
   refine AllReadyH.cons (o := _) rfl (fun K hK => ?_) AllReadyH.nil
   go_simp
   go_at_call 25
   refine (dioramaref03_Put.calls 5 len v2 _ HV2.out).mono ?_
   rintro e w_18 ⟨rfl, hb_⟩
   have BY := boxT BX_ hb_
   have CX2 := Lib.hid (Kd.C_below CX.out hb_)
   clear CX
   have CX := CX2
   clear CX2
   obtain ⟨d0, d1, d2, _, _⟩ := cells61 BY
   refine hK.out _ _ ⟨d0, d1, d2⟩ (fun hHeld => ?_)
   clear hK K d0 d1 d2 BX_
   have BX_ := BY
   clear BY
   (try simp only [Act.put, zq1, zq2, zq3, zq4, zq5, zq6])
   refine tkz 7 rfl ?_ (.inl ⟨by rfl, ?_⟩) ?_
   rotate_left 1
   ·intro w hSw
    obtain ⟨s0, s1, s2⟩ := hSw
    go_simp
    (try with_reducible rfl)
   (try simp only [Act.put, zq1, zq2, zq3, zq4, zq5, zq6])
   refine tkz 13 rfl ?_ (.inl ⟨by rfl, ?_⟩) ?_
   rotate_left 1
   ·intro w hSw
    obtain ⟨s0, s1, s2⟩ := hSw
    go_simp
    (try with_reducible rfl)
   (try simp only [Act.put, zq1, zq2, zq3, zq4, zq5, zq6])
   refine tkz 14 rfl ?_ (.inl ⟨by rfl, ?_⟩) ?_
   rotate_left 1
   ·intro w hSw
    obtain ⟨s0, s1, s2⟩ := hSw
    go_simp
    (try with_reducible rfl)
   (try simp only [Act.put, zq1, zq2, zq3, zq4, zq5, zq6])
   refine wpAnyH_done (by kernel_rfl) ?_ _
   obtain ⟨y, hy⟩ : ∃ y : List S52, y = [(⟨1, v1 ++ v2 ++ v3⟩ : S52), (⟨2, file⟩ : S52)] := ⟨_, rfl⟩
   have HRES2 : Hid (dioramaref04_Put.f (file.size + 2000) (⟨#[68, 73, 79, 80]⟩ : ByteArray) 2 y = some (rb, re)) := by rw [hy, ← HFI.out]; exact HRES
   have Ny := Lib.hid hy
   clear hy
   go_wp2_with (first | ((with_reducible refine gate_dst (N := 94) rfl ?_); refine Kd.R_lit k52 _ 52 ?hg (N := 94) ?hd (xs := ([(⟨1, v1 ++ v2 ++ v3⟩ : S52), (⟨2, file⟩ : S52)] : List S52)) (inner := [.int .i64 1, .string (v1 ++ v2 ++ v3), .int .i64 2, .string file]) (ok := fun _ => True) (okp := fun _ => True) ?hr ?hp (fun _ hk => hk) trivial (Below.refl _ _) (Nat.le_refl _) (by simp) ?_; (case hd => rfl); (case hg => rfl); (case hr => first | (go_simp; done) | (go_simp; rfl)); (case hp => exact (Reps.c2 (show Kd.M k52 _ _ _ (⟨1, v1 ++ v2 ++ v3⟩ : S52) [.int .i64 1, .string (v1 ++ v2 ++ v3)] from (k52_mkM _ _ _ (⟨1, v1 ++ v2 ++ v3⟩ : S52))) (Reps.c2 (show Kd.M k52 _ _ _ (⟨2, file⟩ : S52) [.int .i64 2, .string file] from (k52_mkM _ _ _ (⟨2, file⟩ : S52))) (Reps.none _ _)))); intro v231 w36 ho37 hb36 hg_ hnew_; clear hg_ hnew_; rw [← Ny.out] at ho37; have HB36 := Lib.hid (below_step BX_.out.2 hb36); obtain ⟨Ao, co, eo⟩ := Kd.R_slice ho37; subst eo; have HRo := Lib.hid ho37; clear ho37 hb36) | (go_at_call 31; (with_reducible refine (dioramaref04_Put.calls _ (⟨#[68, 73, 79, 80]⟩ : ByteArray) 2 _ _ y rb re _ ?side1 ?side2 HRES2.out).mono ?_); (case side1 => exact (Kd.R_reads' HRo.out).2.2); (case side2 => exact (Kd.R_reads' HRo.out).2.1); rintro e w39 ⟨rfl, hb39⟩))
   go_ret2
   exact ⟨rfl, below_step HB36.out hb39⟩
set_option maxHeartbeats 8000000 in
set_option maxRecDepth 100000 in
theorem rput_w2 (sum len : Int) (A3 : Option Addr) (c3 : Nat) (file : ByteArray) (w0 : World) (hl : 0 ≤ len ∧ len ≤ 4294967295) (hs : 0 ≤ sum ∧ sum ≤ 4294967295) (rb : ByteArray) (re : Int) (hres : tailR sum len 2 file = some (rb, re)) :
  Calls Try.prog 38 #[.agg #[.int .u32 sum, .int .i64 len, .int .i64 2, .slice A3 0 c3, .string file]] w0 fun e w' => e = .returned (.tuple #[.string rb, .int .i64 re]) ∧ Below w0.heap.size w0 w' := by
 have t3 : decide (len < 0) = false := decide_eq_false (by omega)
 have t4 : decide (4294967295 < len) = false := decide_eq_false (by omega)
 have SB := Lib.hid hs
 have hw : (0 : Int) ≤ 2 ∧ (2 : Int) ≤ 2 := by decide
 have HRES := Lib.hid hres
 clear hres hs
 have BY_ : Hid ((w0.alloc (.cells #[.int .u32 sum, .int .i64 len, .int .i64 2, .slice A3 0 c3, .string file] 61)).heap[w0.heap.size]? = some (.cells #[.int .u32 sum, .int .i64 len, .int .i64 2, .slice A3 0 c3, .string file] 61 (0, 0)) ∧ Below w0.heap.size w0 (w0.alloc (.cells #[.int .u32 sum, .int .i64 len, .int .i64 2, .slice A3 0 c3, .string file] 61))) := Lib.hid ⟨heap_alloc_new w0 _, (Below.refl _ _).alloc (Nat.le_refl _) _⟩
 go_enter Try.func38, Try.ntmps38
 go_wp2_with fail
 generalize w0.alloc (.cells #[.int .u32 sum, .int .i64 len, .int .i64 2, .slice A3 0 c3, .string file] 61) = W at BY_ ⊢
 obtain ⟨g, hgX⟩ : ∃ g, g = w0.heap.size := ⟨_, rfl⟩
 rw [← hgX]
 have BX_ : Hid (W.heap[g]? = some (.cells #[.int .u32 sum, .int .i64 len, .int .i64 2, .slice A3 0 c3, .string file] 61 (0, 0)) ∧ Below w0.heap.size w0 W) := by rw [hgX]; exact BY_
 clear BY_ hgX
 obtain ⟨v1, hv1⟩ : ∃ v, v = strOfNums (Pure.le4 sum) := ⟨_, rfl⟩
 obtain ⟨v2, hv2⟩ : ∃ v, v = strOfNums (Pure.le4 len) := ⟨_, rfl⟩
 obtain ⟨v3, hv3⟩ : ∃ v, v = strOfNums [2] := ⟨_, rfl⟩
 have hs1 : v1.size = 4 := by rw [hv1, strOfNums_size]; rfl
 have hs2 : v2.size = 4 := by rw [hv2, strOfNums_size]; rfl
 have hs3 : v3.size = 1 := by rw [hv3, strOfNums_size]; rfl
 have x1 : (9223372036854775807 < v1.size + v2.size) = False := eq_false (by omega)
 have x2 : (9223372036854775807 < v1.size + v2.size + v3.size) = False := eq_false (by omega)
 have HV1 : Hid (dioramaref03_Put.f 5 sum = some v1) := Lib.hid (by rw [hv1]; exact Pure.refPut_eq 5 sum SB.out (by omega))
 have HV2 : Hid (dioramaref03_Put.f 5 len = some v2) := Lib.hid (by rw [hv2]; exact Pure.refPut_eq 5 len hl (by omega))
 have HFI : Hid (firstP sum len 2 = v1 ++ v2 ++ v3) := Lib.hid (by rw [hv1, hv2, hv3]; rfl)
 have HV3 := Lib.hid hv3
 clear hv1 hv2 hv3 hs1 hs2 hs3
 have hw3 : IntKind.u32.wrap len = len := by rw [IntKind.wrap_u32]; omega
 have hw5 : IntKind.u8.wrap 2 = 2 := by rw [IntKind.wrap_u8]; omega
 have hu5 := Try.underlying5
 have hu72 := Try.underlying72
 have hu9 := Try.underlying9
 have BD := Lib.hid (show _ ∧ _ from (⟨blk_drew BX_.out.1, below_drew1 BX_.out.2⟩ : _ ∧ Below w0.heap.size w0 _))
 obtain ⟨d0, d1, d2, _, _⟩ := cells61 BD
 refine wp_region_held_drew (S := fun w' => w'.cell? ⟨g, 0, none⟩ = some (.int .u32 sum) ∧ w'.cell? ⟨g, 1, none⟩ = some (.int .i64 len) ∧ w'.cell? ⟨g, 2, none⟩ = some (.int .i64 2)) (by kernel_rfl) ⟨d0, d1, d2⟩ (fun hHeld => ?_)
 clear d0 d1 d2 BX_
 have BX_ := BD
 clear BD
 generalize W.drew = W1 at BX_ hHeld ⊢
 refine tkz 0 rfl ?_ (.inl ⟨by rfl, ?_⟩) ?_
 rotate_left 1
 ·intro w hSw
  obtain ⟨s0, s1, s2⟩ := hSw
  go_simp
  (try with_reducible rfl)
 (try simp only [Act.put, zq1, zq2, zq3, zq4, zq5, zq6])
 refine tkz 1 rfl ?_ (.inl ⟨by rfl, ?_⟩) ?_
 rotate_left 1
 ·intro w hSw
  obtain ⟨s0, s1, s2⟩ := hSw
  go_simp
  (try with_reducible rfl)
 (try simp only [Act.put, zq1, zq2, zq3, zq4, zq5, zq6])
 refine tkz 3 rfl ?_ (.inl ⟨by rfl, ?_⟩) ?_
 rotate_left 1
 ·intro w hSw
  obtain ⟨s0, s1, s2⟩ := hSw
  go_simp
  (try with_reducible rfl)
 (try simp only [Act.put, zq1, zq2, zq3, zq4, zq5, zq6])
 refine tkz 4 rfl ?_ (.inl ⟨by rfl, ?_⟩) ?_
 rotate_left 1
 ·intro w hSw
  obtain ⟨s0, s1, s2⟩ := hSw
  go_simp
  (try with_reducible rfl)
 (try simp only [Act.put, zq1, zq2, zq3, zq4, zq5, zq6])
 refine tkz 5 rfl ?_ (.inl ⟨by rfl, ?_⟩) ?_
 rotate_left 1
 ·intro w hSw
  obtain ⟨s0, s1, s2⟩ := hSw
  go_simp
  (try with_reducible rfl)
 (try simp only [Act.put, zq1, zq2, zq3, zq4, zq5, zq6])
 refine tkz 8 rfl ?_ (.inl ⟨by rfl, ?_⟩) ?_
 rotate_left 1
 ·intro w hSw
  obtain ⟨s0, s1, s2⟩ := hSw
  go_simp
  (try with_reducible rfl)
 (try simp only [Act.put, zq1, zq2, zq3, zq4, zq5, zq6])
 refine tkz 9 rfl ?_ (.inl ⟨by rfl, ?_⟩) ?_
 rotate_left 1
 ·intro w hSw
  obtain ⟨s0, s1, s2⟩ := hSw
  go_simp
  (try with_reducible rfl)
 (try simp only [Act.put, zq1, zq2, zq3, zq4, zq5, zq6])
 refine tkz 10 rfl ?_ (.inl ⟨by rfl, ?_⟩) ?_
 rotate_left 1
 ·intro w hSw
  obtain ⟨s0, s1, s2⟩ := hSw
  go_simp
  (try with_reducible rfl)
 (try simp only [Act.put, zq1, zq2, zq3, zq4, zq5, zq6])
 refine wpAnyH_ready (rs := [2, 11]) (by kernel_rfl) (by simp) ?_
 refine AllReadyH.cons (o := _) rfl (fun K hK => ?_) (AllReadyH.cons (o := _) rfl (fun K hK => ?_) AllReadyH.nil)
 ·skip
  go_simp
  go_at_call 25
  refine (dioramaref03_Put.calls 5 sum v1 _ HV1.out).mono ?_
  rintro e w_19 ⟨rfl, hb_⟩
  have BY := boxT BX_ hb_
  obtain ⟨d0, d1, d2, _, _⟩ := cells61 BY
  refine hK.out _ _ ⟨d0, d1, d2⟩ (fun hHeld => ?_)
  clear hK K d0 d1 d2 BX_
  have BX_ := BY
  clear BY
  (try simp only [Act.put, zq1, zq2, zq3, zq4, zq5, zq6])
  refine wpAnyH_ready (rs := [6, 11]) (by kernel_rfl) (by simp) ?_
  refine AllReadyH.cons (o := _) rfl (fun K hK => ?_) (AllReadyH.cons (o := _) rfl (fun K hK => ?_) AllReadyH.nil)
  ·skip
   go_simp
   go_at_call 25
   refine (dioramaref03_Put.calls 5 len v2 _ HV2.out).mono ?_
   rintro e w_20 ⟨rfl, hb_⟩
   have BY := boxT BX_ hb_
   obtain ⟨d0, d1, d2, _, _⟩ := cells61 BY
   refine hK.out _ _ ⟨d0, d1, d2⟩ (fun hHeld => ?_)
   clear hK K d0 d1 d2 BX_
   have BX_ := BY
   clear BY
   (try simp only [Act.put, zq1, zq2, zq3, zq4, zq5, zq6])
   refine tkz 7 rfl ?_ (.inl ⟨by rfl, ?_⟩) ?_
   rotate_left 1
   ·intro w hSw
    obtain ⟨s0, s1, s2⟩ := hSw
    go_simp
    (try with_reducible rfl)
   (try simp only [Act.put, zq1, zq2, zq3, zq4, zq5, zq6])
   refine wpAnyH_ready (rs := [11]) (by kernel_rfl) (by simp) ?_
   refine AllReadyH.cons (o := _) rfl (fun K hK => ?_) AllReadyH.nil
   go_simp
   have BY := boxT BX_ (below_alloc (Below.refl _ w_20) (.cells #[.int .u8 2] 5))
   have CX := Lib.hid (one_C (heap_alloc_new w_20 (.cells #[.int .u8 2] 5)))
   generalize w_20.alloc (.cells #[.int .u8 2] 5) = w_21 at BY CX ⊢
   obtain ⟨d0, d1, d2, _, _⟩ := cells61 BY
   refine hK.out _ _ ⟨d0, d1, d2⟩ (fun hHeld => ?_)
   clear hK K d0 d1 d2 BX_
   have BX_ := BY
   clear BY
   (try simp only [Act.put, zq1, zq2, zq3, zq4, zq5, zq6])
   refine wpAnyH_ready (rs := [12]) (by kernel_rfl) (by simp) ?_
   refine AllReadyH.cons (o := _) rfl (fun K hK => ?_) AllReadyH.nil
   have cv := Kd.C_string (P := Try.prog) (src := 72) (dst := 9) (e := 5) (c := 1) Try.underlying72 Try.underlying5 Try.underlying9 CX.out
   rw [← HV3.out] at cv
   go_simp
   have BY := BX_
   clear cv
   obtain ⟨d0, d1, d2, _, _⟩ := cells61 BY
   refine hK.out _ _ ⟨d0, d1, d2⟩ (fun hHeld => ?_)
   clear hK K d0 d1 d2 BX_
   have BX_ := BY
   clear BY
   (try simp only [Act.put, zq1, zq2, zq3, zq4, zq5, zq6])
   refine tkz 13 rfl ?_ (.inl ⟨by rfl, ?_⟩) ?_
   rotate_left 1
   ·intro w hSw
    obtain ⟨s0, s1, s2⟩ := hSw
    go_simp
    (try with_reducible rfl)
   (try simp only [Act.put, zq1, zq2, zq3, zq4, zq5, zq6])
   refine tkz 14 rfl ?_ (.inl ⟨by rfl, ?_⟩) ?_
   rotate_left 1
   ·intro w hSw
    obtain ⟨s0, s1, s2⟩ := hSw
    go_simp
    (try with_reducible rfl)
   (try simp only [Act.put, zq1, zq2, zq3, zq4, zq5, zq6])
   refine wpAnyH_done (by kernel_rfl) ?_ _
   obtain ⟨y, hy⟩ : ∃ y : List S52, y = [(⟨1, v1 ++ v2 ++ v3⟩ : S52), (⟨2, file⟩ : S52)] := ⟨_, rfl⟩
   have HRES2 : Hid (dioramaref04_Put.f (file.size + 2000) (⟨#[68, 73, 79, 80]⟩ : ByteArray) 2 y = some (rb, re)) := by rw [hy, ← HFI.out]; exact HRES
   have Ny := Lib.hid hy
   clear hy
   go_wp2_with (first | ((with_reducible refine gate_dst (N := 94) rfl ?_); refine Kd.R_lit k52 _ 52 ?hg (N := 94) ?hd (xs := ([(⟨1, v1 ++ v2 ++ v3⟩ : S52), (⟨2, file⟩ : S52)] : List S52)) (inner := [.int .i64 1, .string (v1 ++ v2 ++ v3), .int .i64 2, .string file]) (ok := fun _ => True) (okp := fun _ => True) ?hr ?hp (fun _ hk => hk) trivial (Below.refl _ _) (Nat.le_refl _) (by simp) ?_; (case hd => rfl); (case hg => rfl); (case hr => first | (go_simp; done) | (go_simp; rfl)); (case hp => exact (Reps.c2 (show Kd.M k52 _ _ _ (⟨1, v1 ++ v2 ++ v3⟩ : S52) [.int .i64 1, .string (v1 ++ v2 ++ v3)] from (k52_mkM _ _ _ (⟨1, v1 ++ v2 ++ v3⟩ : S52))) (Reps.c2 (show Kd.M k52 _ _ _ (⟨2, file⟩ : S52) [.int .i64 2, .string file] from (k52_mkM _ _ _ (⟨2, file⟩ : S52))) (Reps.none _ _)))); intro v231 w36 ho37 hb36 hg_ hnew_; clear hg_ hnew_; rw [← Ny.out] at ho37; have HB36 := Lib.hid (below_step BX_.out.2 hb36); obtain ⟨Ao, co, eo⟩ := Kd.R_slice ho37; subst eo; have HRo := Lib.hid ho37; clear ho37 hb36) | (go_at_call 31; (with_reducible refine (dioramaref04_Put.calls _ (⟨#[68, 73, 79, 80]⟩ : ByteArray) 2 _ _ y rb re _ ?side1 ?side2 HRES2.out).mono ?_); (case side1 => exact (Kd.R_reads' HRo.out).2.2); (case side2 => exact (Kd.R_reads' HRo.out).2.1); rintro e w39 ⟨rfl, hb39⟩))
   go_ret2
   exact ⟨rfl, below_step HB36.out hb39⟩
  ·skip
   go_simp
   have BY := boxT BX_ (below_alloc (Below.refl _ w_19) (.cells #[.int .u8 2] 5))
   have CX := Lib.hid (one_C (heap_alloc_new w_19 (.cells #[.int .u8 2] 5)))
   generalize w_19.alloc (.cells #[.int .u8 2] 5) = w_23 at BY CX ⊢
   obtain ⟨d0, d1, d2, _, _⟩ := cells61 BY
   refine hK.out _ _ ⟨d0, d1, d2⟩ (fun hHeld => ?_)
   clear hK K d0 d1 d2 BX_
   have BX_ := BY
   clear BY
   (try simp only [Act.put, zq1, zq2, zq3, zq4, zq5, zq6])
   refine wpAnyH_ready (rs := [6, 12]) (by kernel_rfl) (by simp) ?_
   refine AllReadyH.cons (o := _) rfl (fun K hK => ?_) (AllReadyH.cons (o := _) rfl (fun K hK => ?_) AllReadyH.nil)
   ·skip
    go_simp
    go_at_call 25
    refine (dioramaref03_Put.calls 5 len v2 _ HV2.out).mono ?_
    rintro e w_24 ⟨rfl, hb_⟩
    have BY := boxT BX_ hb_
    have CX2 := Lib.hid (Kd.C_below CX.out hb_)
    clear CX
    have CX := CX2
    clear CX2
    obtain ⟨d0, d1, d2, _, _⟩ := cells61 BY
    refine hK.out _ _ ⟨d0, d1, d2⟩ (fun hHeld => ?_)
    clear hK K d0 d1 d2 BX_
    have BX_ := BY
    clear BY
    (try simp only [Act.put, zq1, zq2, zq3, zq4, zq5, zq6])
    refine tkz 7 rfl ?_ (.inl ⟨by rfl, ?_⟩) ?_
    rotate_left 1
    ·intro w hSw
     obtain ⟨s0, s1, s2⟩ := hSw
     go_simp
     (try with_reducible rfl)
    (try simp only [Act.put, zq1, zq2, zq3, zq4, zq5, zq6])
    refine wpAnyH_ready (rs := [12]) (by kernel_rfl) (by simp) ?_
    refine AllReadyH.cons (o := _) rfl (fun K hK => ?_) AllReadyH.nil
    have cv := Kd.C_string (P := Try.prog) (src := 72) (dst := 9) (e := 5) (c := 1) Try.underlying72 Try.underlying5 Try.underlying9 CX.out
    rw [← HV3.out] at cv
    go_simp
    have BY := BX_
    clear cv
    obtain ⟨d0, d1, d2, _, _⟩ := cells61 BY
    refine hK.out _ _ ⟨d0, d1, d2⟩ (fun hHeld => ?_)
    clear hK K d0 d1 d2 BX_
    have BX_ := BY
    clear BY
    (try simp only [Act.put, zq1, zq2, zq3, zq4, zq5, zq6])
    refine tkz 13 rfl ?_ (.inl ⟨by rfl, ?_⟩) ?_
    rotate_left 1
    ·intro w hSw
     obtain ⟨s0, s1, s2⟩ := hSw
     go_simp
     (try with_reducible rfl)
    (try simp only [Act.put, zq1, zq2, zq3, zq4, zq5, zq6])
    refine tkz 14 rfl ?_ (.inl ⟨by rfl, ?_⟩) ?_
    rotate_left 1
    ·intro w hSw
     obtain ⟨s0, s1, s2⟩ := hSw
     go_simp
     (try with_reducible rfl)
    (try simp only [Act.put, zq1, zq2, zq3, zq4, zq5, zq6])
    refine wpAnyH_done (by kernel_rfl) ?_ _
    obtain ⟨y, hy⟩ : ∃ y : List S52, y = [(⟨1, v1 ++ v2 ++ v3⟩ : S52), (⟨2, file⟩ : S52)] := ⟨_, rfl⟩
    have HRES2 : Hid (dioramaref04_Put.f (file.size + 2000) (⟨#[68, 73, 79, 80]⟩ : ByteArray) 2 y = some (rb, re)) := by rw [hy, ← HFI.out]; exact HRES
    have Ny := Lib.hid hy
    clear hy
    go_wp2_with (first | ((with_reducible refine gate_dst (N := 94) rfl ?_); refine Kd.R_lit k52 _ 52 ?hg (N := 94) ?hd (xs := ([(⟨1, v1 ++ v2 ++ v3⟩ : S52), (⟨2, file⟩ : S52)] : List S52)) (inner := [.int .i64 1, .string (v1 ++ v2 ++ v3), .int .i64 2, .string file]) (ok := fun _ => True) (okp := fun _ => True) ?hr ?hp (fun _ hk => hk) trivial (Below.refl _ _) (Nat.le_refl _) (by simp) ?_; (case hd => rfl); (case hg => rfl); (case hr => first | (go_simp; done) | (go_simp; rfl)); (case hp => exact (Reps.c2 (show Kd.M k52 _ _ _ (⟨1, v1 ++ v2 ++ v3⟩ : S52) [.int .i64 1, .string (v1 ++ v2 ++ v3)] from (k52_mkM _ _ _ (⟨1, v1 ++ v2 ++ v3⟩ : S52))) (Reps.c2 (show Kd.M k52 _ _ _ (⟨2, file⟩ : S52) [.int .i64 2, .string file] from (k52_mkM _ _ _ (⟨2, file⟩ : S52))) (Reps.none _ _)))); intro v231 w36 ho37 hb36 hg_ hnew_; clear hg_ hnew_; rw [← Ny.out] at ho37; have HB36 := Lib.hid (below_step BX_.out.2 hb36); obtain ⟨Ao, co, eo⟩ := Kd.R_slice ho37; subst eo; have HRo := Lib.hid ho37; clear ho37 hb36) | (go_at_call 31; (with_reducible refine (dioramaref04_Put.calls _ (⟨#[68, 73, 79, 80]⟩ : ByteArray) 2 _ _ y rb re _ ?side1 ?side2 HRES2.out).mono ?_); (case side1 => exact (Kd.R_reads' HRo.out).2.2); (case side2 => exact (Kd.R_reads' HRo.out).2.1); rintro e w39 ⟨rfl, hb39⟩))
    go_ret2
    exact ⟨rfl, below_step HB36.out hb39⟩
   ·skip
    have cv := Kd.C_string (P := Try.prog) (src := 72) (dst := 9) (e := 5) (c := 1) Try.underlying72 Try.underlying5 Try.underlying9 CX.out
    rw [← HV3.out] at cv
    go_simp
    have BY := BX_
    clear cv
    obtain ⟨d0, d1, d2, _, _⟩ := cells61 BY
    refine hK.out _ _ ⟨d0, d1, d2⟩ (fun hHeld => ?_)
    clear hK K d0 d1 d2 BX_
    have BX_ := BY
    clear BY
    (try simp only [Act.put, zq1, zq2, zq3, zq4, zq5, zq6])
    refine wpAnyH_ready (rs := [6]) (by kernel_rfl) (by simp) ?_
    refine AllReadyH.cons (o := _) rfl (fun K hK => ?_) AllReadyH.nil
    go_simp
    go_at_call 25
    refine (dioramaref03_Put.calls 5 len v2 _ HV2.out).mono ?_
    rintro e w_27 ⟨rfl, hb_⟩
    have BY := boxT BX_ hb_
    have CX2 := Lib.hid (Kd.C_below CX.out hb_)
    clear CX
    have CX := CX2
    clear CX2
    obtain ⟨d0, d1, d2, _, _⟩ := cells61 BY
    refine hK.out _ _ ⟨d0, d1, d2⟩ (fun hHeld => ?_)
    clear hK K d0 d1 d2 BX_
    have BX_ := BY
    clear BY
    (try simp only [Act.put, zq1, zq2, zq3, zq4, zq5, zq6])
    refine tkz 7 rfl ?_ (.inl ⟨by rfl, ?_⟩) ?_
    rotate_left 1
    ·intro w hSw
     obtain ⟨s0, s1, s2⟩ := hSw
     go_simp
     (try with_reducible rfl)
    (try simp only [Act.put, zq1, zq2, zq3, zq4, zq5, zq6])
    refine tkz 13 rfl ?_ (.inl ⟨by rfl, ?_⟩) ?_
    rotate_left 1
    ·intro w hSw
     obtain ⟨s0, s1, s2⟩ := hSw
     go_simp
     (try with_reducible rfl)
    (try simp only [Act.put, zq1, zq2, zq3, zq4, zq5, zq6])
    refine tkz 14 rfl ?_ (.inl ⟨by rfl, ?_⟩) ?_
    rotate_left 1
    ·intro w hSw
     obtain ⟨s0, s1, s2⟩ := hSw
     go_simp
     (try with_reducible rfl)
    (try simp only [Act.put, zq1, zq2, zq3, zq4, zq5, zq6])
    refine wpAnyH_done (by kernel_rfl) ?_ _
    obtain ⟨y, hy⟩ : ∃ y : List S52, y = [(⟨1, v1 ++ v2 ++ v3⟩ : S52), (⟨2, file⟩ : S52)] := ⟨_, rfl⟩
    have HRES2 : Hid (dioramaref04_Put.f (file.size + 2000) (⟨#[68, 73, 79, 80]⟩ : ByteArray) 2 y = some (rb, re)) := by rw [hy, ← HFI.out]; exact HRES
    have Ny := Lib.hid hy
    clear hy
    go_wp2_with (first | ((with_reducible refine gate_dst (N := 94) rfl ?_); refine Kd.R_lit k52 _ 52 ?hg (N := 94) ?hd (xs := ([(⟨1, v1 ++ v2 ++ v3⟩ : S52), (⟨2, file⟩ : S52)] : List S52)) (inner := [.int .i64 1, .string (v1 ++ v2 ++ v3), .int .i64 2, .string file]) (ok := fun _ => True) (okp := fun _ => True) ?hr ?hp (fun _ hk => hk) trivial (Below.refl _ _) (Nat.le_refl _) (by simp) ?_; (case hd => rfl); (case hg => rfl); (case hr => first | (go_simp; done) | (go_simp; rfl)); (case hp => exact (Reps.c2 (show Kd.M k52 _ _ _ (⟨1, v1 ++ v2 ++ v3⟩ : S52) [.int .i64 1, .string (v1 ++ v2 ++ v3)] from (k52_mkM _ _ _ (⟨1, v1 ++ v2 ++ v3⟩ : S52))) (Reps.c2 (show Kd.M k52 _ _ _ (⟨2, file⟩ : S52) [.int .i64 2, .string file] from (k52_mkM _ _ _ (⟨2, file⟩ : S52))) (Reps.none _ _)))); intro v231 w36 ho37 hb36 hg_ hnew_; clear hg_ hnew_; rw [← Ny.out] at ho37; have HB36 := Lib.hid (below_step BX_.out.2 hb36); obtain ⟨Ao, co, eo⟩ := Kd.R_slice ho37; subst eo; have HRo := Lib.hid ho37; clear ho37 hb36) | (go_at_call 31; (with_reducible refine (dioramaref04_Put.calls _ (⟨#[68, 73, 79, 80]⟩ : ByteArray) 2 _ _ y rb re _ ?side1 ?side2 HRES2.out).mono ?_); (case side1 => exact (Kd.R_reads' HRo.out).2.2); (case side2 => exact (Kd.R_reads' HRo.out).2.1); rintro e w39 ⟨rfl, hb39⟩))
    go_ret2
    exact ⟨rfl, below_step HB36.out hb39⟩
 ·skip
  go_simp
  have BY := boxT BX_ (below_alloc (Below.refl _ W1) (.cells #[.int .u8 2] 5))
  have CX := Lib.hid (one_C (heap_alloc_new W1 (.cells #[.int .u8 2] 5)))
  generalize W1.alloc (.cells #[.int .u8 2] 5) = w_28 at BY CX ⊢
  obtain ⟨d0, d1, d2, _, _⟩ := cells61 BY
  refine hK.out _ _ ⟨d0, d1, d2⟩ (fun hHeld => ?_)
  clear hK K d0 d1 d2 BX_
  have BX_ := BY
  clear BY
  (try simp only [Act.put, zq1, zq2, zq3, zq4, zq5, zq6])
  refine wpAnyH_ready (rs := [2, 12]) (by kernel_rfl) (by simp) ?_
  refine AllReadyH.cons (o := _) rfl (fun K hK => ?_) (AllReadyH.cons (o := _) rfl (fun K hK => ?_) AllReadyH.nil)
  ·skip
   go_simp
   go_at_call 25
   refine (dioramaref03_Put.calls 5 sum v1 _ HV1.out).mono ?_
   rintro e w_29 ⟨rfl, hb_⟩
   have BY := boxT BX_ hb_
   have CX2 := Lib.hid (Kd.C_below CX.out hb_)
   clear CX
   have CX := CX2
   clear CX2
   obtain ⟨d0, d1, d2, _, _⟩ := cells61 BY
   refine hK.out _ _ ⟨d0, d1, d2⟩ (fun hHeld => ?_)
   clear hK K d0 d1 d2 BX_
   have BX_ := BY
   clear BY
   (try simp only [Act.put, zq1, zq2, zq3, zq4, zq5, zq6])
   refine wpAnyH_ready (rs := [6, 12]) (by kernel_rfl) (by simp) ?_
   refine AllReadyH.cons (o := _) rfl (fun K hK => ?_) (AllReadyH.cons (o := _) rfl (fun K hK => ?_) AllReadyH.nil)
   ·skip
    go_simp
    go_at_call 25
    refine (dioramaref03_Put.calls 5 len v2 _ HV2.out).mono ?_
    rintro e w_30 ⟨rfl, hb_⟩
    have BY := boxT BX_ hb_
    have CX2 := Lib.hid (Kd.C_below CX.out hb_)
    clear CX
    have CX := CX2
    clear CX2
    obtain ⟨d0, d1, d2, _, _⟩ := cells61 BY
    refine hK.out _ _ ⟨d0, d1, d2⟩ (fun hHeld => ?_)
    clear hK K d0 d1 d2 BX_
    have BX_ := BY
    clear BY
    (try simp only [Act.put, zq1, zq2, zq3, zq4, zq5, zq6])
    refine tkz 7 rfl ?_ (.inl ⟨by rfl, ?_⟩) ?_
    rotate_left 1
    ·intro w hSw
     obtain ⟨s0, s1, s2⟩ := hSw
     go_simp
     (try with_reducible rfl)
    (try simp only [Act.put, zq1, zq2, zq3, zq4, zq5, zq6])
    refine wpAnyH_ready (rs := [12]) (by kernel_rfl) (by simp) ?_
    refine AllReadyH.cons (o := _) rfl (fun K hK => ?_) AllReadyH.nil
    have cv := Kd.C_string (P := Try.prog) (src := 72) (dst := 9) (e := 5) (c := 1) Try.underlying72 Try.underlying5 Try.underlying9 CX.out
    rw [← HV3.out] at cv
    go_simp
    have BY := BX_
    clear cv
    obtain ⟨d0, d1, d2, _, _⟩ := cells61 BY
    refine hK.out _ _ ⟨d0, d1, d2⟩ (fun hHeld => ?_)
    clear hK K d0 d1 d2 BX_
    have BX_ := BY
    clear BY
    (try simp only [Act.put, zq1, zq2, zq3, zq4, zq5, zq6])
    refine tkz 13 rfl ?_ (.inl ⟨by rfl, ?_⟩) ?_
    rotate_left 1
    ·intro w hSw
     obtain ⟨s0, s1, s2⟩ := hSw
     go_simp
     (try with_reducible rfl)
    (try simp only [Act.put, zq1, zq2, zq3, zq4, zq5, zq6])
    refine tkz 14 rfl ?_ (.inl ⟨by rfl, ?_⟩) ?_
    rotate_left 1
    ·intro w hSw
     obtain ⟨s0, s1, s2⟩ := hSw
     go_simp
     (try with_reducible rfl)
    (try simp only [Act.put, zq1, zq2, zq3, zq4, zq5, zq6])
    refine wpAnyH_done (by kernel_rfl) ?_ _
    obtain ⟨y, hy⟩ : ∃ y : List S52, y = [(⟨1, v1 ++ v2 ++ v3⟩ : S52), (⟨2, file⟩ : S52)] := ⟨_, rfl⟩
    have HRES2 : Hid (dioramaref04_Put.f (file.size + 2000) (⟨#[68, 73, 79, 80]⟩ : ByteArray) 2 y = some (rb, re)) := by rw [hy, ← HFI.out]; exact HRES
    have Ny := Lib.hid hy
    clear hy
    go_wp2_with (first | ((with_reducible refine gate_dst (N := 94) rfl ?_); refine Kd.R_lit k52 _ 52 ?hg (N := 94) ?hd (xs := ([(⟨1, v1 ++ v2 ++ v3⟩ : S52), (⟨2, file⟩ : S52)] : List S52)) (inner := [.int .i64 1, .string (v1 ++ v2 ++ v3), .int .i64 2, .string file]) (ok := fun _ => True) (okp := fun _ => True) ?hr ?hp (fun _ hk => hk) trivial (Below.refl _ _) (Nat.le_refl _) (by simp) ?_; (case hd => rfl); (case hg => rfl); (case hr => first | (go_simp; done) | (go_simp; rfl)); (case hp => exact (Reps.c2 (show Kd.M k52 _ _ _ (⟨1, v1 ++ v2 ++ v3⟩ : S52) [.int .i64 1, .string (v1 ++ v2 ++ v3)] from (k52_mkM _ _ _ (⟨1, v1 ++ v2 ++ v3⟩ : S52))) (Reps.c2 (show Kd.M k52 _ _ _ (⟨2, file⟩ : S52) [.int .i64 2, .string file] from (k52_mkM _ _ _ (⟨2, file⟩ : S52))) (Reps.none _ _)))); intro v231 w36 ho37 hb36 hg_ hnew_; clear hg_ hnew_; rw [← Ny.out] at ho37; have HB36 := Lib.hid (below_step BX_.out.2 hb36); obtain ⟨Ao, co, eo⟩ := Kd.R_slice ho37; subst eo; have HRo := Lib.hid ho37; clear ho37 hb36) | (go_at_call 31; (with_reducible refine (dioramaref04_Put.calls _ (⟨#[68, 73, 79, 80]⟩ : ByteArray) 2 _ _ y rb re _ ?side1 ?side2 HRES2.out).mono ?_); (case side1 => exact (Kd.R_reads' HRo.out).2.2); (case side2 => exact (Kd.R_reads' HRo.out).2.1); rintro e w39 ⟨rfl, hb39⟩))
    go_ret2
    exact ⟨rfl, below_step HB36.out hb39⟩
   ·skip
    have cv := Kd.C_string (P := Try.prog) (src := 72) (dst := 9) (e := 5) (c := 1) Try.underlying72 Try.underlying5 Try.underlying9 CX.out
    rw [← HV3.out] at cv
    go_simp
    have BY := BX_
    clear cv
    obtain ⟨d0, d1, d2, _, _⟩ := cells61 BY
    refine hK.out _ _ ⟨d0, d1, d2⟩ (fun hHeld => ?_)
    clear hK K d0 d1 d2 BX_
    have BX_ := BY
    clear BY
    (try simp only [Act.put, zq1, zq2, zq3, zq4, zq5, zq6])
    refine wpAnyH_ready (rs := [6]) (by kernel_rfl) (by simp) ?_
    refine AllReadyH.cons (o := _) rfl (fun K hK => ?_) AllReadyH.nil
    go_simp
    go_at_call 25
    refine (dioramaref03_Put.calls 5 len v2 _ HV2.out).mono ?_
    rintro e w_33 ⟨rfl, hb_⟩
    have BY := boxT BX_ hb_
    have CX2 := Lib.hid (Kd.C_below CX.out hb_)
    clear CX
    have CX := CX2
    clear CX2
    obtain ⟨d0, d1, d2, _, _⟩ := cells61 BY
    refine hK.out _ _ ⟨d0, d1, d2⟩ (fun hHeld => ?_)
    clear hK K d0 d1 d2 BX_
    have BX_ := BY
    clear BY
    (try simp only [Act.put, zq1, zq2, zq3, zq4, zq5, zq6])
    refine tkz 7 rfl ?_ (.inl ⟨by rfl, ?_⟩) ?_
    rotate_left 1
    ·intro w hSw
     obtain ⟨s0, s1, s2⟩ := hSw
     go_simp
     (try with_reducible rfl)
    (try simp only [Act.put, zq1, zq2, zq3, zq4, zq5, zq6])
    refine tkz 13 rfl ?_ (.inl ⟨by rfl, ?_⟩) ?_
    rotate_left 1
    ·intro w hSw
     obtain ⟨s0, s1, s2⟩ := hSw
     go_simp
     (try with_reducible rfl)
    (try simp only [Act.put, zq1, zq2, zq3, zq4, zq5, zq6])
    refine tkz 14 rfl ?_ (.inl ⟨by rfl, ?_⟩) ?_
    rotate_left 1
    ·intro w hSw
     obtain ⟨s0, s1, s2⟩ := hSw
     go_simp
     (try with_reducible rfl)
    (try simp only [Act.put, zq1, zq2, zq3, zq4, zq5, zq6])
    refine wpAnyH_done (by kernel_rfl) ?_ _
    obtain ⟨y, hy⟩ : ∃ y : List S52, y = [(⟨1, v1 ++ v2 ++ v3⟩ : S52), (⟨2, file⟩ : S52)] := ⟨_, rfl⟩
    have HRES2 : Hid (dioramaref04_Put.f (file.size + 2000) (⟨#[68, 73, 79, 80]⟩ : ByteArray) 2 y = some (rb, re)) := by rw [hy, ← HFI.out]; exact HRES
    have Ny := Lib.hid hy
    clear hy
    go_wp2_with (first | ((with_reducible refine gate_dst (N := 94) rfl ?_); refine Kd.R_lit k52 _ 52 ?hg (N := 94) ?hd (xs := ([(⟨1, v1 ++ v2 ++ v3⟩ : S52), (⟨2, file⟩ : S52)] : List S52)) (inner := [.int .i64 1, .string (v1 ++ v2 ++ v3), .int .i64 2, .string file]) (ok := fun _ => True) (okp := fun _ => True) ?hr ?hp (fun _ hk => hk) trivial (Below.refl _ _) (Nat.le_refl _) (by simp) ?_; (case hd => rfl); (case hg => rfl); (case hr => first | (go_simp; done) | (go_simp; rfl)); (case hp => exact (Reps.c2 (show Kd.M k52 _ _ _ (⟨1, v1 ++ v2 ++ v3⟩ : S52) [.int .i64 1, .string (v1 ++ v2 ++ v3)] from (k52_mkM _ _ _ (⟨1, v1 ++ v2 ++ v3⟩ : S52))) (Reps.c2 (show Kd.M k52 _ _ _ (⟨2, file⟩ : S52) [.int .i64 2, .string file] from (k52_mkM _ _ _ (⟨2, file⟩ : S52))) (Reps.none _ _)))); intro v231 w36 ho37 hb36 hg_ hnew_; clear hg_ hnew_; rw [← Ny.out] at ho37; have HB36 := Lib.hid (below_step BX_.out.2 hb36); obtain ⟨Ao, co, eo⟩ := Kd.R_slice ho37; subst eo; have HRo := Lib.hid ho37; clear ho37 hb36) | (go_at_call 31; (with_reducible refine (dioramaref04_Put.calls _ (⟨#[68, 73, 79, 80]⟩ : ByteArray) 2 _ _ y rb re _ ?side1 ?side2 HRES2.out).mono ?_); (case side1 => exact (Kd.R_reads' HRo.out).2.2); (case side2 => exact (Kd.R_reads' HRo.out).2.1); rintro e w39 ⟨rfl, hb39⟩))
    go_ret2
    exact ⟨rfl, below_step HB36.out hb39⟩
  ·skip
   have cv := Kd.C_string (P := Try.prog) (src := 72) (dst := 9) (e := 5) (c := 1) Try.underlying72 Try.underlying5 Try.underlying9 CX.out
   rw [← HV3.out] at cv
   go_simp
   have BY := BX_
   clear cv
   obtain ⟨d0, d1, d2, _, _⟩ := cells61 BY
   refine hK.out _ _ ⟨d0, d1, d2⟩ (fun hHeld => ?_)
   clear hK K d0 d1 d2 BX_
   have BX_ := BY
   clear BY
   (try simp only [Act.put, zq1, zq2, zq3, zq4, zq5, zq6])
   refine wpAnyH_ready (rs := [2]) (by kernel_rfl) (by simp) ?_
   refine AllReadyH.cons (o := _) rfl (fun K hK => ?_) AllReadyH.nil
   go_simp
   go_at_call 25
   refine (dioramaref03_Put.calls 5 sum v1 _ HV1.out).mono ?_
   rintro e w_35 ⟨rfl, hb_⟩
   have BY := boxT BX_ hb_
   have CX2 := Lib.hid (Kd.C_below CX.out hb_)
   clear CX
   have CX := CX2
   clear CX2
   obtain ⟨d0, d1, d2, _, _⟩ := cells61 BY
   refine hK.out _ _ ⟨d0, d1, d2⟩ (fun hHeld => ?_)
   clear hK K d0 d1 d2 BX_
   have BX_ := BY
   clear BY
   (try simp only [Act.put, zq1, zq2, zq3, zq4, zq5, zq6])
   refine wpAnyH_ready (rs := [6]) (by kernel_rfl) (by simp) ?_
   refine AllReadyH.cons (o := _) rfl (fun K hK => ?_) AllReadyH.nil
   go_simp
   go_at_call 25
   refine (dioramaref03_Put.calls 5 len v2 _ HV2.out).mono ?_
   rintro e w_36 ⟨rfl, hb_⟩
   have BY := boxT BX_ hb_
   have CX2 := Lib.hid (Kd.C_below CX.out hb_)
   clear CX
   have CX := CX2
   clear CX2
   obtain ⟨d0, d1, d2, _, _⟩ := cells61 BY
   refine hK.out _ _ ⟨d0, d1, d2⟩ (fun hHeld => ?_)
   clear hK K d0 d1 d2 BX_
   have BX_ := BY
   clear BY
   (try simp only [Act.put, zq1, zq2, zq3, zq4, zq5, zq6])
   refine tkz 7 rfl ?_ (.inl ⟨by rfl, ?_⟩) ?_
   rotate_left 1
   ·intro w hSw
    obtain ⟨s0, s1, s2⟩ := hSw
    go_simp
    (try with_reducible rfl)
   (try simp only [Act.put, zq1, zq2, zq3, zq4, zq5, zq6])
   refine tkz 13 rfl ?_ (.inl ⟨by rfl, ?_⟩) ?_
   rotate_left 1
   ·intro w hSw
    obtain ⟨s0, s1, s2⟩ := hSw
    go_simp
    (try with_reducible rfl)
   (try simp only [Act.put, zq1, zq2, zq3, zq4, zq5, zq6])
   refine tkz 14 rfl ?_ (.inl ⟨by rfl, ?_⟩) ?_
   rotate_left 1
   ·intro w hSw
    obtain ⟨s0, s1, s2⟩ := hSw
    go_simp
    (try with_reducible rfl)
   (try simp only [Act.put, zq1, zq2, zq3, zq4, zq5, zq6])
   refine wpAnyH_done (by kernel_rfl) ?_ _
   obtain ⟨y, hy⟩ : ∃ y : List S52, y = [(⟨1, v1 ++ v2 ++ v3⟩ : S52), (⟨2, file⟩ : S52)] := ⟨_, rfl⟩
   have HRES2 : Hid (dioramaref04_Put.f (file.size + 2000) (⟨#[68, 73, 79, 80]⟩ : ByteArray) 2 y = some (rb, re)) := by rw [hy, ← HFI.out]; exact HRES
   have Ny := Lib.hid hy
   clear hy
   go_wp2_with (first | ((with_reducible refine gate_dst (N := 94) rfl ?_); refine Kd.R_lit k52 _ 52 ?hg (N := 94) ?hd (xs := ([(⟨1, v1 ++ v2 ++ v3⟩ : S52), (⟨2, file⟩ : S52)] : List S52)) (inner := [.int .i64 1, .string (v1 ++ v2 ++ v3), .int .i64 2, .string file]) (ok := fun _ => True) (okp := fun _ => True) ?hr ?hp (fun _ hk => hk) trivial (Below.refl _ _) (Nat.le_refl _) (by simp) ?_; (case hd => rfl); (case hg => rfl); (case hr => first | (go_simp; done) | (go_simp; rfl)); (case hp => exact (Reps.c2 (show Kd.M k52 _ _ _ (⟨1, v1 ++ v2 ++ v3⟩ : S52) [.int .i64 1, .string (v1 ++ v2 ++ v3)] from (k52_mkM _ _ _ (⟨1, v1 ++ v2 ++ v3⟩ : S52))) (Reps.c2 (show Kd.M k52 _ _ _ (⟨2, file⟩ : S52) [.int .i64 2, .string file] from (k52_mkM _ _ _ (⟨2, file⟩ : S52))) (Reps.none _ _)))); intro v231 w36 ho37 hb36 hg_ hnew_; clear hg_ hnew_; rw [← Ny.out] at ho37; have HB36 := Lib.hid (below_step BX_.out.2 hb36); obtain ⟨Ao, co, eo⟩ := Kd.R_slice ho37; subst eo; have HRo := Lib.hid ho37; clear ho37 hb36) | (go_at_call 31; (with_reducible refine (dioramaref04_Put.calls _ (⟨#[68, 73, 79, 80]⟩ : ByteArray) 2 _ _ y rb re _ ?side1 ?side2 HRES2.out).mono ?_); (case side1 => exact (Kd.R_reads' HRo.out).2.2); (case side2 => exact (Kd.R_reads' HRo.out).2.1); rintro e w39 ⟨rfl, hb39⟩))
   go_ret2
   exact ⟨rfl, below_step HB36.out hb39⟩
set_option maxHeartbeats 8000000 in
set_option maxRecDepth 100000 in
theorem rput_ops21 (sum len : Int) (A3 : Option Addr) (c3 : Nat) (ops : List S107) (file : ByteArray) (w0 : World) (hl : 0 ≤ len ∧ len ≤ 4294967295) (hs : 0 ≤ sum ∧ sum ≤ 4294967295) (hf : file.toList.isEmpty = true) (g3 : Kd.C k107 w0 A3 ops.length ops) (hok : ∀ o ∈ ops, okOp o) (hlen : (opsB ops).length ≤ 140737488355328) (hno : ops.all refOk = false) :
  Calls Try.prog 38 #[.agg #[.int .u32 sum, .int .i64 len, .int .i64 1, .slice A3 ops.length c3, .string file]] w0 fun e w' => e = .returned (.tuple #[.string ⟨#[]⟩, .int .i64 21]) ∧ Below w0.heap.size w0 w' := by
 have HALL := Lib.hid hno
 clear hno
 have t3 : decide (len < 0) = false := decide_eq_false (by omega)
 have t4 : decide (4294967295 < len) = false := decide_eq_false (by omega)
 have SB := Lib.hid hs
 have hw : (0 : Int) ≤ 1 ∧ (1 : Int) ≤ 2 := by decide
 have G3 := Lib.hid g3
 have LLo : Hid (ops.length ≤ 9223372036854775807) := Lib.hid g3.2.1
 have OKS := Lib.hid hok
 have LB := Lib.hid hl
 obtain ⟨T, hT⟩ : ∃ T, opsB ops = T := ⟨_, rfl⟩
 have LT : T.length ≤ 140737488355328 := by rw [← hT]; exact hlen
 have HTE := Lib.hid hT
 unfold opsB at hT
 have HT_ := Lib.hid hT
 clear g3 hs hok hlen hT
 have BY_ : Hid ((w0.alloc (.cells #[.int .u32 sum, .int .i64 len, .int .i64 1, .slice A3 ops.length c3, .string file] 61)).heap[w0.heap.size]? = some (.cells #[.int .u32 sum, .int .i64 len, .int .i64 1, .slice A3 ops.length c3, .string file] 61 (0, 0)) ∧ Below w0.heap.size w0 (w0.alloc (.cells #[.int .u32 sum, .int .i64 len, .int .i64 1, .slice A3 ops.length c3, .string file] 61))) := Lib.hid ⟨heap_alloc_new w0 _, (Below.refl _ _).alloc (Nat.le_refl _) _⟩
 go_enter Try.func38, Try.ntmps38
 go_wp2_with fail
 generalize w0.alloc (.cells #[.int .u32 sum, .int .i64 len, .int .i64 1, .slice A3 ops.length c3, .string file] 61) = W at BY_ ⊢
 obtain ⟨g, hgX⟩ : ∃ g, g = w0.heap.size := ⟨_, rfl⟩
 rw [← hgX]
 have BX_ : Hid (W.heap[g]? = some (.cells #[.int .u32 sum, .int .i64 len, .int .i64 1, .slice A3 ops.length c3, .string file] 61 (0, 0)) ∧ Below w0.heap.size w0 W) := by rw [hgX]; exact BY_
 clear BY_ hgX
 skip
 refine (num_calls (ops.length : Int) _).mono ?_
 rintro e w1 ⟨rfl, hb_⟩
 have BZ := boxT BX_ hb_
 clear BX_ hb_
 have BX_ := BZ
 clear BZ
 have z3 : w1.cell? ⟨g, 3, none⟩ = some (.slice A3 ops.length c3) := (blk_cell BX_.out.1 3).trans rfl
 go_wp2_with fail
 go_loopw [2, 3, 4, 5, 6, 7] (fun a b s i _ _ wr => a = .string ⟨#[]⟩ ∧ b = .int .i64 0 ∧ ∃ n : Nat, n ≤ ops.length ∧ i = .int .i64 n ∧ ∃ acc, s = .string (strB acc) ∧ Hid (wr.heap[g]? = some (.cells #[.int .u32 sum, .int .i64 len, .int .i64 1, .slice A3 ops.length c3, .string file] 61 (0, 0)) ∧ Below w0.heap.size w0 wr) ∧ Hid (acc ++ (ops.drop n).flatMap opB = T) ∧ Hid ((ops.drop n).all refOk = ops.all refOk)) (fun _ _ _ i _ _ _ => ops.length - (intOf i).toNat)
 case atStart => exact ⟨rfl, rfl, 0, Nat.zero_le _, rfl, _, rfl, BX_, HT_, Lib.hid rfl⟩
 case round =>
  obtain ⟨rfl, rfl, n, hn, rfl, acc, rfl, BX_, HT_, HF_⟩ := hrel
  have z3 : wr.cell? ⟨g, 3, none⟩ = some (.slice A3 ops.length c3) := (blk_cell BX_.out.1 3).trans rfl
  by_cases hlt : n < ops.length
  ·have hd : decide ((n : Int) < (ops.length : Int)) = true := decide_eq_true (by omega)
   have HLT := Lib.hid hlt
   obtain ⟨ad, B2, d2, B3, d3, B5, d5, B6, d6, B7, d7, hA, k0, k1, k2, k3, k4, k5, k6, k7, e2, f2, e3, f3, e5, f5, e6, f6, e7, f7⟩ := at_T107 G3.out (n : Int) (by omega) (by omega)
   subst hA
   have hrd : rd_T107 ops (n : Int) = ops[n] := by unfold rd_T107; rw [List.getD_eq_getElem?_getD, Int.toNat_natCast, List.getElem?_eq_getElem hlt]; rfl
   rw [Int.toNat_natCast, hrd] at k0 k1 k2 k3 k4 k5 k6 k7
   rw [hrd] at f2 f3 f5 f6 f7
   clear hrd e2 e3 e5 e6 e7
   have hdr : ops.drop n = ops[n] :: ops.drop (n + 1) := List.drop_eq_getElem_cons hlt
   rw [hdr, List.flatMap_cons] at HT_
   rw [hdr, List.all_cons] at HF_
   clear hdr
   have hko := OKS.out _ (List.getElem_mem hlt)
   generalize ops[n] = o at k0 k1 k2 k3 k4 k5 k6 k7 f2 f3 f5 f6 f7 HT_ HF_ hko
   clear hlt hn
   have HKO := Lib.hid hko
   clear hko
   have k0 := pw_cell_below BX_.out.2 k0
   have k1 := pw_cell_below BX_.out.2 k1
   have k2 := pw_cell_below BX_.out.2 k2
   have k3 := pw_cell_below BX_.out.2 k3
   have k4 := pw_cell_below BX_.out.2 k4
   have k5 := pw_cell_below BX_.out.2 k5
   have k6 := pw_cell_below BX_.out.2 k6
   have k7 := pw_cell_below BX_.out.2 k7
   have FF2 := Lib.hid (Kd.C_below f2 BX_.out.2)
   have FF3 := Lib.hid (Kd.C_below f3 BX_.out.2)
   have FF5 := Lib.hid (Kd.C_below f5 BX_.out.2)
   have FF6 := Lib.hid (Kd.C_below f6 BX_.out.2)
   have FF7 := Lib.hid (Kd.C_below f7 BX_.out.2)
   clear f2 f3 f5 f6 f7
   have hTl := pre_len HT_.out
   rw [List.length_append] at hTl
   have HLo : Hid ((opB o).length ≤ 140737488355328) := Lib.hid (by omega)
   have xo : (9223372036854775807 < (strB acc).size + (strB (opB o)).size) = False := eq_false (by rw [strB_size, strB_size]; omega)
   clear hTl
   cases hq : refOk o with
   | false =>
    go_wp2_with (go_at_call 61; refine (refOp_calls o B2 B3 B5 B6 B7 d2 d3 d5 d6 d7 _ HLo.out FF2.out FF3.out FF5.out FF6.out FF7.out HKO.out).mono ?_; rintro e w2 ⟨s, ok, rfl, hk, hso, hb_⟩; rw [hq] at hk; subst hk; have BZ := boxT BX_ hb_)
    have hall : ops.all refOk = false := by rw [← HF_.out, hq]; rfl
    go_ret2
    exact ⟨rfl, BZ.out.2⟩
   | true =>
    rw [hq, Bool.true_and] at HF_
    go_wp2_with (go_at_call 61; refine (refOp_calls o B2 B3 B5 B6 B7 d2 d3 d5 d6 d7 _ HLo.out FF2.out FF3.out FF5.out FF6.out FF7.out HKO.out).mono ?_; rintro e w2 ⟨s, ok, rfl, hk, hso, hb_⟩; rw [hq] at hk; subst hk; obtain rfl := hso rfl; clear hso; have BZ := boxT BX_ hb_)
    go_roundw
    case rel => exact ⟨rfl, rfl, n + 1, HLT.out, by rw [wrap_succ HLT.out LLo.out], _, by rw [strB_app], BZ, Lib.hid (by rw [List.append_assoc]; exact HT_.out), HF_⟩
    case measure => rw [wrap_succ HLT.out LLo.out]; have := HLT.out; simp [intOf]; omega
  ·obtain rfl : n = ops.length := by omega
   have hd : decide ((ops.length : Int) < (ops.length : Int)) = false := decide_eq_false (by omega)
   rw [List.drop_of_length_le (Nat.le_refl _), List.flatMap_nil, List.append_nil] at HT_
   rw [List.drop_of_length_le (Nat.le_refl _), List.all_nil] at HF_
   exact absurd HF_.out (by rw [HALL.out]; simp)
set_option maxHeartbeats 8000000 in
set_option maxRecDepth 100000 in
theorem rput_ops (sum len : Int) (A3 : Option Addr) (c3 : Nat) (ops : List S107) (file : ByteArray) (w0 : World) (hl : 0 ≤ len ∧ len ≤ 4294967295) (hs : 0 ≤ sum ∧ sum ≤ 4294967295) (hf : file.toList.isEmpty = true) (g3 : Kd.C k107 w0 A3 ops.length ops) (hok : ∀ o ∈ ops, okOp o) (hlen : (opsB ops).length ≤ 140737488355328) (hno : ops.all refOk = true) (rb : ByteArray) (re : Int) (hres : tailR sum len 1 (strB (opsB ops)) = some (rb, re)) :
  Calls Try.prog 38 #[.agg #[.int .u32 sum, .int .i64 len, .int .i64 1, .slice A3 ops.length c3, .string file]] w0 fun e w' => e = .returned (.tuple #[.string rb, .int .i64 re]) ∧ Below w0.heap.size w0 w' := by
 have HALL := Lib.hid hno
 have HRES := Lib.hid hres
 clear hno hres
 have t3 : decide (len < 0) = false := decide_eq_false (by omega)
 have t4 : decide (4294967295 < len) = false := decide_eq_false (by omega)
 have SB := Lib.hid hs
 have hw : (0 : Int) ≤ 1 ∧ (1 : Int) ≤ 2 := by decide
 have G3 := Lib.hid g3
 have LLo : Hid (ops.length ≤ 9223372036854775807) := Lib.hid g3.2.1
 have OKS := Lib.hid hok
 have LB := Lib.hid hl
 obtain ⟨T, hT⟩ : ∃ T, opsB ops = T := ⟨_, rfl⟩
 have LT : T.length ≤ 140737488355328 := by rw [← hT]; exact hlen
 have HTE := Lib.hid hT
 unfold opsB at hT
 have HT_ := Lib.hid hT
 clear g3 hs hok hlen hT
 have BY_ : Hid ((w0.alloc (.cells #[.int .u32 sum, .int .i64 len, .int .i64 1, .slice A3 ops.length c3, .string file] 61)).heap[w0.heap.size]? = some (.cells #[.int .u32 sum, .int .i64 len, .int .i64 1, .slice A3 ops.length c3, .string file] 61 (0, 0)) ∧ Below w0.heap.size w0 (w0.alloc (.cells #[.int .u32 sum, .int .i64 len, .int .i64 1, .slice A3 ops.length c3, .string file] 61))) := Lib.hid ⟨heap_alloc_new w0 _, (Below.refl _ _).alloc (Nat.le_refl _) _⟩
 go_enter Try.func38, Try.ntmps38
 go_wp2_with fail
 generalize w0.alloc (.cells #[.int .u32 sum, .int .i64 len, .int .i64 1, .slice A3 ops.length c3, .string file] 61) = W at BY_ ⊢
 obtain ⟨g, hgX⟩ : ∃ g, g = w0.heap.size := ⟨_, rfl⟩
 rw [← hgX]
 have BX_ : Hid (W.heap[g]? = some (.cells #[.int .u32 sum, .int .i64 len, .int .i64 1, .slice A3 ops.length c3, .string file] 61 (0, 0)) ∧ Below w0.heap.size w0 W) := by rw [hgX]; exact BY_
 clear BY_ hgX
 skip
 refine (num_calls (ops.length : Int) _).mono ?_
 rintro e w1 ⟨rfl, hb_⟩
 have BZ := boxT BX_ hb_
 clear BX_ hb_
 have BX_ := BZ
 clear BZ
 have z3 : w1.cell? ⟨g, 3, none⟩ = some (.slice A3 ops.length c3) := (blk_cell BX_.out.1 3).trans rfl
 go_wp2_with fail
 go_loopw [2, 3, 4, 5, 6, 7] (fun a b s i _ _ wr => a = .string ⟨#[]⟩ ∧ b = .int .i64 0 ∧ ∃ n : Nat, n ≤ ops.length ∧ i = .int .i64 n ∧ ∃ acc, s = .string (strB acc) ∧ Hid (wr.heap[g]? = some (.cells #[.int .u32 sum, .int .i64 len, .int .i64 1, .slice A3 ops.length c3, .string file] 61 (0, 0)) ∧ Below w0.heap.size w0 wr) ∧ Hid (acc ++ (ops.drop n).flatMap opB = T) ∧ Hid ((ops.drop n).all refOk = ops.all refOk)) (fun _ _ _ i _ _ _ => ops.length - (intOf i).toNat)
 case atStart => exact ⟨rfl, rfl, 0, Nat.zero_le _, rfl, _, rfl, BX_, HT_, Lib.hid rfl⟩
 case round =>
  obtain ⟨rfl, rfl, n, hn, rfl, acc, rfl, BX_, HT_, HF_⟩ := hrel
  have z3 : wr.cell? ⟨g, 3, none⟩ = some (.slice A3 ops.length c3) := (blk_cell BX_.out.1 3).trans rfl
  by_cases hlt : n < ops.length
  ·have hd : decide ((n : Int) < (ops.length : Int)) = true := decide_eq_true (by omega)
   have HLT := Lib.hid hlt
   obtain ⟨ad, B2, d2, B3, d3, B5, d5, B6, d6, B7, d7, hA, k0, k1, k2, k3, k4, k5, k6, k7, e2, f2, e3, f3, e5, f5, e6, f6, e7, f7⟩ := at_T107 G3.out (n : Int) (by omega) (by omega)
   subst hA
   have hrd : rd_T107 ops (n : Int) = ops[n] := by unfold rd_T107; rw [List.getD_eq_getElem?_getD, Int.toNat_natCast, List.getElem?_eq_getElem hlt]; rfl
   rw [Int.toNat_natCast, hrd] at k0 k1 k2 k3 k4 k5 k6 k7
   rw [hrd] at f2 f3 f5 f6 f7
   clear hrd e2 e3 e5 e6 e7
   have hdr : ops.drop n = ops[n] :: ops.drop (n + 1) := List.drop_eq_getElem_cons hlt
   rw [hdr, List.flatMap_cons] at HT_
   rw [hdr, List.all_cons] at HF_
   clear hdr
   have hko := OKS.out _ (List.getElem_mem hlt)
   generalize ops[n] = o at k0 k1 k2 k3 k4 k5 k6 k7 f2 f3 f5 f6 f7 HT_ HF_ hko
   clear hlt hn
   have HKO := Lib.hid hko
   clear hko
   have k0 := pw_cell_below BX_.out.2 k0
   have k1 := pw_cell_below BX_.out.2 k1
   have k2 := pw_cell_below BX_.out.2 k2
   have k3 := pw_cell_below BX_.out.2 k3
   have k4 := pw_cell_below BX_.out.2 k4
   have k5 := pw_cell_below BX_.out.2 k5
   have k6 := pw_cell_below BX_.out.2 k6
   have k7 := pw_cell_below BX_.out.2 k7
   have FF2 := Lib.hid (Kd.C_below f2 BX_.out.2)
   have FF3 := Lib.hid (Kd.C_below f3 BX_.out.2)
   have FF5 := Lib.hid (Kd.C_below f5 BX_.out.2)
   have FF6 := Lib.hid (Kd.C_below f6 BX_.out.2)
   have FF7 := Lib.hid (Kd.C_below f7 BX_.out.2)
   clear f2 f3 f5 f6 f7
   have hTl := pre_len HT_.out
   rw [List.length_append] at hTl
   have HLo : Hid ((opB o).length ≤ 140737488355328) := Lib.hid (by omega)
   have xo : (9223372036854775807 < (strB acc).size + (strB (opB o)).size) = False := eq_false (by rw [strB_size, strB_size]; omega)
   clear hTl
   cases hq : refOk o with
   | false =>
    go_wp2_with (go_at_call 61; refine (refOp_calls o B2 B3 B5 B6 B7 d2 d3 d5 d6 d7 _ HLo.out FF2.out FF3.out FF5.out FF6.out FF7.out HKO.out).mono ?_; rintro e w2 ⟨s, ok, rfl, hk, hso, hb_⟩; rw [hq] at hk; subst hk; have BZ := boxT BX_ hb_)
    have hall : ops.all refOk = false := by rw [← HF_.out, hq]; rfl
    exact absurd hall (by rw [HALL.out]; simp)
   | true =>
    rw [hq, Bool.true_and] at HF_
    go_wp2_with (go_at_call 61; refine (refOp_calls o B2 B3 B5 B6 B7 d2 d3 d5 d6 d7 _ HLo.out FF2.out FF3.out FF5.out FF6.out FF7.out HKO.out).mono ?_; rintro e w2 ⟨s, ok, rfl, hk, hso, hb_⟩; rw [hq] at hk; subst hk; obtain rfl := hso rfl; clear hso; have BZ := boxT BX_ hb_)
    go_roundw
    case rel => exact ⟨rfl, rfl, n + 1, HLT.out, by rw [wrap_succ HLT.out LLo.out], _, by rw [strB_app], BZ, Lib.hid (by rw [List.append_assoc]; exact HT_.out), HF_⟩
    case measure => rw [wrap_succ HLT.out LLo.out]; have := HLT.out; simp [intOf]; omega
  ·obtain rfl : n = ops.length := by omega
   have hd : decide ((ops.length : Int) < (ops.length : Int)) = false := decide_eq_false (by omega)
   rw [List.drop_of_length_le (Nat.le_refl _), List.flatMap_nil, List.append_nil] at HT_
   rw [List.drop_of_length_le (Nat.le_refl _), List.all_nil] at HF_
   have hPL : strB acc = strB (opsB ops) := by rw [HTE.out, HT_.out]
   go_wp2_with fail
   rw [hPL]
   generalize strB (opsB ops) = pl at HRES ⊢
   have hl := LB.out
   generalize wr = W at BX_ ⊢
   clear z3 hlt hn hPL HT_ HF_ HTE
   obtain ⟨v1, hv1⟩ : ∃ v, v = strOfNums (Pure.le4 sum) := ⟨_, rfl⟩
   obtain ⟨v2, hv2⟩ : ∃ v, v = strOfNums (Pure.le4 len) := ⟨_, rfl⟩
   obtain ⟨v3, hv3⟩ : ∃ v, v = strOfNums [1] := ⟨_, rfl⟩
   have hs1 : v1.size = 4 := by rw [hv1, strOfNums_size]; rfl
   have hs2 : v2.size = 4 := by rw [hv2, strOfNums_size]; rfl
   have hs3 : v3.size = 1 := by rw [hv3, strOfNums_size]; rfl
   have x1 : (9223372036854775807 < v1.size + v2.size) = False := eq_false (by omega)
   have x2 : (9223372036854775807 < v1.size + v2.size + v3.size) = False := eq_false (by omega)
   have HV1 : Hid (dioramaref03_Put.f 5 sum = some v1) := Lib.hid (by rw [hv1]; exact Pure.refPut_eq 5 sum SB.out (by omega))
   have HV2 : Hid (dioramaref03_Put.f 5 len = some v2) := Lib.hid (by rw [hv2]; exact Pure.refPut_eq 5 len hl (by omega))
   have HFI : Hid (firstP sum len 1 = v1 ++ v2 ++ v3) := Lib.hid (by rw [hv1, hv2, hv3]; rfl)
   have HV3 := Lib.hid hv3
   clear hv1 hv2 hv3 hs1 hs2 hs3
   have hw3 : IntKind.u32.wrap len = len := by rw [IntKind.wrap_u32]; omega
   have hw5 : IntKind.u8.wrap 1 = 1 := by rw [IntKind.wrap_u8]; omega
   have hu5 := Try.underlying5
   have hu72 := Try.underlying72
   have hu9 := Try.underlying9
   have BD := Lib.hid (show _ ∧ _ from (⟨blk_drew BX_.out.1, below_drew1 BX_.out.2⟩ : _ ∧ Below w0.heap.size w0 _))
   obtain ⟨d0, d1, d2, _, _⟩ := cells61 BD
   refine wp_region_held_drew (S := fun w' => w'.cell? ⟨g, 0, none⟩ = some (.int .u32 sum) ∧ w'.cell? ⟨g, 1, none⟩ = some (.int .i64 len) ∧ w'.cell? ⟨g, 2, none⟩ = some (.int .i64 1)) (by kernel_rfl) ⟨d0, d1, d2⟩ (fun hHeld => ?_)
   clear d0 d1 d2 BX_
   have BX_ := BD
   clear BD
   generalize W.drew = W1 at BX_ hHeld ⊢
   refine tkz 0 rfl ?_ (.inl ⟨by rfl, ?_⟩) ?_
   rotate_left 1
   ·intro w hSw
    obtain ⟨s0, s1, s2⟩ := hSw
    go_simp
    (try with_reducible rfl)
   (try simp only [Act.put, zq1, zq2, zq3, zq4, zq5, zq6])
   refine tkz 1 rfl ?_ (.inl ⟨by rfl, ?_⟩) ?_
   rotate_left 1
   ·intro w hSw
    obtain ⟨s0, s1, s2⟩ := hSw
    go_simp
    (try with_reducible rfl)
   (try simp only [Act.put, zq1, zq2, zq3, zq4, zq5, zq6])
   refine tkz 3 rfl ?_ (.inl ⟨by rfl, ?_⟩) ?_
   rotate_left 1
   ·intro w hSw
    obtain ⟨s0, s1, s2⟩ := hSw
    go_simp
    (try with_reducible rfl)
   (try simp only [Act.put, zq1, zq2, zq3, zq4, zq5, zq6])
   refine tkz 4 rfl ?_ (.inl ⟨by rfl, ?_⟩) ?_
   rotate_left 1
   ·intro w hSw
    obtain ⟨s0, s1, s2⟩ := hSw
    go_simp
    (try with_reducible rfl)
   (try simp only [Act.put, zq1, zq2, zq3, zq4, zq5, zq6])
   refine tkz 5 rfl ?_ (.inl ⟨by rfl, ?_⟩) ?_
   rotate_left 1
   ·intro w hSw
    obtain ⟨s0, s1, s2⟩ := hSw
    go_simp
    (try with_reducible rfl)
   (try simp only [Act.put, zq1, zq2, zq3, zq4, zq5, zq6])
   refine tkz 8 rfl ?_ (.inl ⟨by rfl, ?_⟩) ?_
   rotate_left 1
   ·intro w hSw
    obtain ⟨s0, s1, s2⟩ := hSw
    go_simp
    (try with_reducible rfl)
   (try simp only [Act.put, zq1, zq2, zq3, zq4, zq5, zq6])
   refine tkz 9 rfl ?_ (.inl ⟨by rfl, ?_⟩) ?_
   rotate_left 1
   ·intro w hSw
    obtain ⟨s0, s1, s2⟩ := hSw
    go_simp
    (try with_reducible rfl)
   (try simp only [Act.put, zq1, zq2, zq3, zq4, zq5, zq6])
   refine tkz 10 rfl ?_ (.inl ⟨by rfl, ?_⟩) ?_
   rotate_left 1
   ·intro w hSw
    obtain ⟨s0, s1, s2⟩ := hSw
    go_simp
    (try with_reducible rfl)
   (try simp only [Act.put, zq1, zq2, zq3, zq4, zq5, zq6])
   refine wpAnyH_ready (rs := [2, 11]) (by kernel_rfl) (by simp) ?_
   refine AllReadyH.cons (o := _) rfl (fun K hK => ?_) (AllReadyH.cons (o := _) rfl (fun K hK => ?_) AllReadyH.nil)
   ·skip
    go_simp
    go_at_call 25
    refine (dioramaref03_Put.calls 5 sum v1 _ HV1.out).mono ?_
    rintro e w_37 ⟨rfl, hb_⟩
    have BY := boxT BX_ hb_
    obtain ⟨d0, d1, d2, _, _⟩ := cells61 BY
    refine hK.out _ _ ⟨d0, d1, d2⟩ (fun hHeld => ?_)
    clear hK K d0 d1 d2 BX_
    have BX_ := BY
    clear BY
    (try simp only [Act.put, zq1, zq2, zq3, zq4, zq5, zq6])
    refine wpAnyH_ready (rs := [6, 11]) (by kernel_rfl) (by simp) ?_
    refine AllReadyH.cons (o := _) rfl (fun K hK => ?_) (AllReadyH.cons (o := _) rfl (fun K hK => ?_) AllReadyH.nil)
    ·skip
     go_simp
     go_at_call 25
     refine (dioramaref03_Put.calls 5 len v2 _ HV2.out).mono ?_
     rintro e w_38 ⟨rfl, hb_⟩
     have BY := boxT BX_ hb_
     obtain ⟨d0, d1, d2, _, _⟩ := cells61 BY
     refine hK.out _ _ ⟨d0, d1, d2⟩ (fun hHeld => ?_)
     clear hK K d0 d1 d2 BX_
     have BX_ := BY
     clear BY
     (try simp only [Act.put, zq1, zq2, zq3, zq4, zq5, zq6])
     refine tkz 7 rfl ?_ (.inl ⟨by rfl, ?_⟩) ?_
     rotate_left 1
     ·intro w hSw
      obtain ⟨s0, s1, s2⟩ := hSw
      go_simp
      (try with_reducible rfl)
     (try simp only [Act.put, zq1, zq2, zq3, zq4, zq5, zq6])
     refine wpAnyH_ready (rs := [11]) (by kernel_rfl) (by simp) ?_
     refine AllReadyH.cons (o := _) rfl (fun K hK => ?_) AllReadyH.nil
     go_simp
     have BY := boxT BX_ (below_alloc (Below.refl _ w_38) (.cells #[.int .u8 1] 5))
     have CX := Lib.hid (one_C (heap_alloc_new w_38 (.cells #[.int .u8 1] 5)))
     generalize w_38.alloc (.cells #[.int .u8 1] 5) = w_39 at BY CX ⊢
     obtain ⟨d0, d1, d2, _, _⟩ := cells61 BY
     refine hK.out _ _ ⟨d0, d1, d2⟩ (fun hHeld => ?_)
     clear hK K d0 d1 d2 BX_
     have BX_ := BY
     clear BY
     (try simp only [Act.put, zq1, zq2, zq3, zq4, zq5, zq6])
     refine wpAnyH_ready (rs := [12]) (by kernel_rfl) (by simp) ?_
     refine AllReadyH.cons (o := _) rfl (fun K hK => ?_) AllReadyH.nil
     have cv := Kd.C_string (P := Try.prog) (src := 72) (dst := 9) (e := 5) (c := 1) Try.underlying72 Try.underlying5 Try.underlying9 CX.out
     rw [← HV3.out] at cv
     go_simp
     have BY := BX_
     clear cv
     obtain ⟨d0, d1, d2, _, _⟩ := cells61 BY
     refine hK.out _ _ ⟨d0, d1, d2⟩ (fun hHeld => ?_)
     clear hK K d0 d1 d2 BX_
     have BX_ := BY
     clear BY
     (try simp only [Act.put, zq1, zq2, zq3, zq4, zq5, zq6])
     refine tkz 13 rfl ?_ (.inl ⟨by rfl, ?_⟩) ?_
     rotate_left 1
     ·intro w hSw
      obtain ⟨s0, s1, s2⟩ := hSw
      go_simp
      (try with_reducible rfl)
     (try simp only [Act.put, zq1, zq2, zq3, zq4, zq5, zq6])
     refine tkz 14 rfl ?_ (.inl ⟨by rfl, ?_⟩) ?_
     rotate_left 1
     ·intro w hSw
      obtain ⟨s0, s1, s2⟩ := hSw
      go_simp
      (try with_reducible rfl)
     (try simp only [Act.put, zq1, zq2, zq3, zq4, zq5, zq6])
     refine wpAnyH_done (by kernel_rfl) ?_ _
     obtain ⟨y, hy⟩ : ∃ y : List S52, y = [(⟨1, v1 ++ v2 ++ v3⟩ : S52), (⟨2, pl⟩ : S52)] := ⟨_, rfl⟩
     have HRES2 : Hid (dioramaref04_Put.f (pl.size + 2000) (⟨#[68, 73, 79, 80]⟩ : ByteArray) 2 y = some (rb, re)) := by rw [hy, ← HFI.out]; exact HRES
     have Ny := Lib.hid hy
     clear hy
     go_wp2_with (first | ((with_reducible refine gate_dst (N := 94) rfl ?_); refine Kd.R_lit k52 _ 52 ?hg (N := 94) ?hd (xs := ([(⟨1, v1 ++ v2 ++ v3⟩ : S52), (⟨2, pl⟩ : S52)] : List S52)) (inner := [.int .i64 1, .string (v1 ++ v2 ++ v3), .int .i64 2, .string pl]) (ok := fun _ => True) (okp := fun _ => True) ?hr ?hp (fun _ hk => hk) trivial (Below.refl _ _) (Nat.le_refl _) (by simp) ?_; (case hd => rfl); (case hg => rfl); (case hr => first | (go_simp; done) | (go_simp; rfl)); (case hp => exact (Reps.c2 (show Kd.M k52 _ _ _ (⟨1, v1 ++ v2 ++ v3⟩ : S52) [.int .i64 1, .string (v1 ++ v2 ++ v3)] from (k52_mkM _ _ _ (⟨1, v1 ++ v2 ++ v3⟩ : S52))) (Reps.c2 (show Kd.M k52 _ _ _ (⟨2, pl⟩ : S52) [.int .i64 2, .string pl] from (k52_mkM _ _ _ (⟨2, pl⟩ : S52))) (Reps.none _ _)))); intro v231 w36 ho37 hb36 hg_ hnew_; clear hg_ hnew_; rw [← Ny.out] at ho37; have HB36 := Lib.hid (below_step BX_.out.2 hb36); obtain ⟨Ao, co, eo⟩ := Kd.R_slice ho37; subst eo; have HRo := Lib.hid ho37; clear ho37 hb36) | (go_at_call 31; (with_reducible refine (dioramaref04_Put.calls _ (⟨#[68, 73, 79, 80]⟩ : ByteArray) 2 _ _ y rb re _ ?side1 ?side2 HRES2.out).mono ?_); (case side1 => exact (Kd.R_reads' HRo.out).2.2); (case side2 => exact (Kd.R_reads' HRo.out).2.1); rintro e w39 ⟨rfl, hb39⟩))
     go_ret2
     exact ⟨rfl, below_step HB36.out hb39⟩
    ·skip
     go_simp
     have BY := boxT BX_ (below_alloc (Below.refl _ w_37) (.cells #[.int .u8 1] 5))
     have CX := Lib.hid (one_C (heap_alloc_new w_37 (.cells #[.int .u8 1] 5)))
     generalize w_37.alloc (.cells #[.int .u8 1] 5) = w_41 at BY CX ⊢
     obtain ⟨d0, d1, d2, _, _⟩ := cells61 BY
     refine hK.out _ _ ⟨d0, d1, d2⟩ (fun hHeld => ?_)
     clear hK K d0 d1 d2 BX_
     have BX_ := BY
     clear BY
     (try simp only [Act.put, zq1, zq2, zq3, zq4, zq5, zq6])
     refine wpAnyH_ready (rs := [6, 12]) (by kernel_rfl) (by simp) ?_
     refine AllReadyH.cons (o := _) rfl (fun K hK => ?_) (AllReadyH.cons (o := _) rfl (fun K hK => ?_) AllReadyH.nil)
     ·skip
      go_simp
      go_at_call 25
      refine (dioramaref03_Put.calls 5 len v2 _ HV2.out).mono ?_
      rintro e w_42 ⟨rfl, hb_⟩
      have BY := boxT BX_ hb_
      have CX2 := Lib.hid (Kd.C_below CX.out hb_)
      clear CX
      have CX := CX2
      clear CX2
      obtain ⟨d0, d1, d2, _, _⟩ := cells61 BY
      refine hK.out _ _ ⟨d0, d1, d2⟩ (fun hHeld => ?_)
      clear hK K d0 d1 d2 BX_
      have BX_ := BY
      clear BY
      (try simp only [Act.put, zq1, zq2, zq3, zq4, zq5, zq6])
      refine tkz 7 rfl ?_ (.inl ⟨by rfl, ?_⟩) ?_
      rotate_left 1
      ·intro w hSw
       obtain ⟨s0, s1, s2⟩ := hSw
       go_simp
       (try with_reducible rfl)
      (try simp only [Act.put, zq1, zq2, zq3, zq4, zq5, zq6])
      refine wpAnyH_ready (rs := [12]) (by kernel_rfl) (by simp) ?_
      refine AllReadyH.cons (o := _) rfl (fun K hK => ?_) AllReadyH.nil
      have cv := Kd.C_string (P := Try.prog) (src := 72) (dst := 9) (e := 5) (c := 1) Try.underlying72 Try.underlying5 Try.underlying9 CX.out
      rw [← HV3.out] at cv
      go_simp
      have BY := BX_
      clear cv
      obtain ⟨d0, d1, d2, _, _⟩ := cells61 BY
      refine hK.out _ _ ⟨d0, d1, d2⟩ (fun hHeld => ?_)
      clear hK K d0 d1 d2 BX_
      have BX_ := BY
      clear BY
      (try simp only [Act.put, zq1, zq2, zq3, zq4, zq5, zq6])
      refine tkz 13 rfl ?_ (.inl ⟨by rfl, ?_⟩) ?_
      rotate_left 1
      ·intro w hSw
       obtain ⟨s0, s1, s2⟩ := hSw
       go_simp
       (try with_reducible rfl)
      (try simp only [Act.put, zq1, zq2, zq3, zq4, zq5, zq6])
      refine tkz 14 rfl ?_ (.inl ⟨by rfl, ?_⟩) ?_
      rotate_left 1
      ·intro w hSw
       obtain ⟨s0, s1, s2⟩ := hSw
       go_simp
       (try with_reducible rfl)
      (try simp only [Act.put, zq1, zq2, zq3, zq4, zq5, zq6])
      refine wpAnyH_done (by kernel_rfl) ?_ _
      obtain ⟨y, hy⟩ : ∃ y : List S52, y = [(⟨1, v1 ++ v2 ++ v3⟩ : S52), (⟨2, pl⟩ : S52)] := ⟨_, rfl⟩
      have HRES2 : Hid (dioramaref04_Put.f (pl.size + 2000) (⟨#[68, 73, 79, 80]⟩ : ByteArray) 2 y = some (rb, re)) := by rw [hy, ← HFI.out]; exact HRES
      have Ny := Lib.hid hy
      clear hy
      go_wp2_with (first | ((with_reducible refine gate_dst (N := 94) rfl ?_); refine Kd.R_lit k52 _ 52 ?hg (N := 94) ?hd (xs := ([(⟨1, v1 ++ v2 ++ v3⟩ : S52), (⟨2, pl⟩ : S52)] : List S52)) (inner := [.int .i64 1, .string (v1 ++ v2 ++ v3), .int .i64 2, .string pl]) (ok := fun _ => True) (okp := fun _ => True) ?hr ?hp (fun _ hk => hk) trivial (Below.refl _ _) (Nat.le_refl _) (by simp) ?_; (case hd => rfl); (case hg => rfl); (case hr => first | (go_simp; done) | (go_simp; rfl)); (case hp => exact (Reps.c2 (show Kd.M k52 _ _ _ (⟨1, v1 ++ v2 ++ v3⟩ : S52) [.int .i64 1, .string (v1 ++ v2 ++ v3)] from (k52_mkM _ _ _ (⟨1, v1 ++ v2 ++ v3⟩ : S52))) (Reps.c2 (show Kd.M k52 _ _ _ (⟨2, pl⟩ : S52) [.int .i64 2, .string pl] from (k52_mkM _ _ _ (⟨2, pl⟩ : S52))) (Reps.none _ _)))); intro v231 w36 ho37 hb36 hg_ hnew_; clear hg_ hnew_; rw [← Ny.out] at ho37; have HB36 := Lib.hid (below_step BX_.out.2 hb36); obtain ⟨Ao, co, eo⟩ := Kd.R_slice ho37; subst eo; have HRo := Lib.hid ho37; clear ho37 hb36) | (go_at_call 31; (with_reducible refine (dioramaref04_Put.calls _ (⟨#[68, 73, 79, 80]⟩ : ByteArray) 2 _ _ y rb re _ ?side1 ?side2 HRES2.out).mono ?_); (case side1 => exact (Kd.R_reads' HRo.out).2.2); (case side2 => exact (Kd.R_reads' HRo.out).2.1); rintro e w39 ⟨rfl, hb39⟩))
      go_ret2
      exact ⟨rfl, below_step HB36.out hb39⟩
     ·skip
      have cv := Kd.C_string (P := Try.prog) (src := 72) (dst := 9) (e := 5) (c := 1) Try.underlying72 Try.underlying5 Try.underlying9 CX.out
      rw [← HV3.out] at cv
      go_simp
      have BY := BX_
      clear cv
      obtain ⟨d0, d1, d2, _, _⟩ := cells61 BY
      refine hK.out _ _ ⟨d0, d1, d2⟩ (fun hHeld => ?_)
      clear hK K d0 d1 d2 BX_
      have BX_ := BY
      clear BY
      (try simp only [Act.put, zq1, zq2, zq3, zq4, zq5, zq6])
      refine wpAnyH_ready (rs := [6]) (by kernel_rfl) (by simp) ?_
      refine AllReadyH.cons (o := _) rfl (fun K hK => ?_) AllReadyH.nil
      go_simp
      go_at_call 25
      refine (dioramaref03_Put.calls 5 len v2 _ HV2.out).mono ?_
      rintro e w_45 ⟨rfl, hb_⟩
      have BY := boxT BX_ hb_
      have CX2 := Lib.hid (Kd.C_below CX.out hb_)
      clear CX
      have CX := CX2
      clear CX2
      obtain ⟨d0, d1, d2, _, _⟩ := cells61 BY
      refine hK.out _ _ ⟨d0, d1, d2⟩ (fun hHeld => ?_)
      clear hK K d0 d1 d2 BX_
      have BX_ := BY
      clear BY
      (try simp only [Act.put, zq1, zq2, zq3, zq4, zq5, zq6])
      refine tkz 7 rfl ?_ (.inl ⟨by rfl, ?_⟩) ?_
      rotate_left 1
      ·intro w hSw
       obtain ⟨s0, s1, s2⟩ := hSw
       go_simp
       (try with_reducible rfl)
      (try simp only [Act.put, zq1, zq2, zq3, zq4, zq5, zq6])
      refine tkz 13 rfl ?_ (.inl ⟨by rfl, ?_⟩) ?_
      rotate_left 1
      ·intro w hSw
       obtain ⟨s0, s1, s2⟩ := hSw
       go_simp
       (try with_reducible rfl)
      (try simp only [Act.put, zq1, zq2, zq3, zq4, zq5, zq6])
      refine tkz 14 rfl ?_ (.inl ⟨by rfl, ?_⟩) ?_
      rotate_left 1
      ·intro w hSw
       obtain ⟨s0, s1, s2⟩ := hSw
       go_simp
       (try with_reducible rfl)
      (try simp only [Act.put, zq1, zq2, zq3, zq4, zq5, zq6])
      refine wpAnyH_done (by kernel_rfl) ?_ _
      obtain ⟨y, hy⟩ : ∃ y : List S52, y = [(⟨1, v1 ++ v2 ++ v3⟩ : S52), (⟨2, pl⟩ : S52)] := ⟨_, rfl⟩
      have HRES2 : Hid (dioramaref04_Put.f (pl.size + 2000) (⟨#[68, 73, 79, 80]⟩ : ByteArray) 2 y = some (rb, re)) := by rw [hy, ← HFI.out]; exact HRES
      have Ny := Lib.hid hy
      clear hy
      go_wp2_with (first | ((with_reducible refine gate_dst (N := 94) rfl ?_); refine Kd.R_lit k52 _ 52 ?hg (N := 94) ?hd (xs := ([(⟨1, v1 ++ v2 ++ v3⟩ : S52), (⟨2, pl⟩ : S52)] : List S52)) (inner := [.int .i64 1, .string (v1 ++ v2 ++ v3), .int .i64 2, .string pl]) (ok := fun _ => True) (okp := fun _ => True) ?hr ?hp (fun _ hk => hk) trivial (Below.refl _ _) (Nat.le_refl _) (by simp) ?_; (case hd => rfl); (case hg => rfl); (case hr => first | (go_simp; done) | (go_simp; rfl)); (case hp => exact (Reps.c2 (show Kd.M k52 _ _ _ (⟨1, v1 ++ v2 ++ v3⟩ : S52) [.int .i64 1, .string (v1 ++ v2 ++ v3)] from (k52_mkM _ _ _ (⟨1, v1 ++ v2 ++ v3⟩ : S52))) (Reps.c2 (show Kd.M k52 _ _ _ (⟨2, pl⟩ : S52) [.int .i64 2, .string pl] from (k52_mkM _ _ _ (⟨2, pl⟩ : S52))) (Reps.none _ _)))); intro v231 w36 ho37 hb36 hg_ hnew_; clear hg_ hnew_; rw [← Ny.out] at ho37; have HB36 := Lib.hid (below_step BX_.out.2 hb36); obtain ⟨Ao, co, eo⟩ := Kd.R_slice ho37; subst eo; have HRo := Lib.hid ho37; clear ho37 hb36) | (go_at_call 31; (with_reducible refine (dioramaref04_Put.calls _ (⟨#[68, 73, 79, 80]⟩ : ByteArray) 2 _ _ y rb re _ ?side1 ?side2 HRES2.out).mono ?_); (case side1 => exact (Kd.R_reads' HRo.out).2.2); (case side2 => exact (Kd.R_reads' HRo.out).2.1); rintro e w39 ⟨rfl, hb39⟩))
      go_ret2
      exact ⟨rfl, below_step HB36.out hb39⟩
   ·skip
    go_simp
    have BY := boxT BX_ (below_alloc (Below.refl _ W1) (.cells #[.int .u8 1] 5))
    have CX := Lib.hid (one_C (heap_alloc_new W1 (.cells #[.int .u8 1] 5)))
    generalize W1.alloc (.cells #[.int .u8 1] 5) = w_46 at BY CX ⊢
    obtain ⟨d0, d1, d2, _, _⟩ := cells61 BY
    refine hK.out _ _ ⟨d0, d1, d2⟩ (fun hHeld => ?_)
    clear hK K d0 d1 d2 BX_
    have BX_ := BY
    clear BY
    (try simp only [Act.put, zq1, zq2, zq3, zq4, zq5, zq6])
    refine wpAnyH_ready (rs := [2, 12]) (by kernel_rfl) (by simp) ?_
    refine AllReadyH.cons (o := _) rfl (fun K hK => ?_) (AllReadyH.cons (o := _) rfl (fun K hK => ?_) AllReadyH.nil)
    ·skip
     go_simp
     go_at_call 25
     refine (dioramaref03_Put.calls 5 sum v1 _ HV1.out).mono ?_
     rintro e w_47 ⟨rfl, hb_⟩
     have BY := boxT BX_ hb_
     have CX2 := Lib.hid (Kd.C_below CX.out hb_)
     clear CX
     have CX := CX2
     clear CX2
     obtain ⟨d0, d1, d2, _, _⟩ := cells61 BY
     refine hK.out _ _ ⟨d0, d1, d2⟩ (fun hHeld => ?_)
     clear hK K d0 d1 d2 BX_
     have BX_ := BY
     clear BY
     (try simp only [Act.put, zq1, zq2, zq3, zq4, zq5, zq6])
     refine wpAnyH_ready (rs := [6, 12]) (by kernel_rfl) (by simp) ?_
     refine AllReadyH.cons (o := _) rfl (fun K hK => ?_) (AllReadyH.cons (o := _) rfl (fun K hK => ?_) AllReadyH.nil)
     ·skip
      go_simp
      go_at_call 25
      refine (dioramaref03_Put.calls 5 len v2 _ HV2.out).mono ?_
      rintro e w_48 ⟨rfl, hb_⟩
      have BY := boxT BX_ hb_
      have CX2 := Lib.hid (Kd.C_below CX.out hb_)
      clear CX
      have CX := CX2
      clear CX2
      obtain ⟨d0, d1, d2, _, _⟩ := cells61 BY
      refine hK.out _ _ ⟨d0, d1, d2⟩ (fun hHeld => ?_)
      clear hK K d0 d1 d2 BX_
      have BX_ := BY
      clear BY
      (try simp only [Act.put, zq1, zq2, zq3, zq4, zq5, zq6])
      refine tkz 7 rfl ?_ (.inl ⟨by rfl, ?_⟩) ?_
      rotate_left 1
      ·intro w hSw
       obtain ⟨s0, s1, s2⟩ := hSw
       go_simp
       (try with_reducible rfl)
      (try simp only [Act.put, zq1, zq2, zq3, zq4, zq5, zq6])
      refine wpAnyH_ready (rs := [12]) (by kernel_rfl) (by simp) ?_
      refine AllReadyH.cons (o := _) rfl (fun K hK => ?_) AllReadyH.nil
      have cv := Kd.C_string (P := Try.prog) (src := 72) (dst := 9) (e := 5) (c := 1) Try.underlying72 Try.underlying5 Try.underlying9 CX.out
      rw [← HV3.out] at cv
      go_simp
      have BY := BX_
      clear cv
      obtain ⟨d0, d1, d2, _, _⟩ := cells61 BY
      refine hK.out _ _ ⟨d0, d1, d2⟩ (fun hHeld => ?_)
      clear hK K d0 d1 d2 BX_
      have BX_ := BY
      clear BY
      (try simp only [Act.put, zq1, zq2, zq3, zq4, zq5, zq6])
      refine tkz 13 rfl ?_ (.inl ⟨by rfl, ?_⟩) ?_
      rotate_left 1
      ·intro w hSw
       obtain ⟨s0, s1, s2⟩ := hSw
       go_simp
       (try with_reducible rfl)
      (try simp only [Act.put, zq1, zq2, zq3, zq4, zq5, zq6])
      refine tkz 14 rfl ?_ (.inl ⟨by rfl, ?_⟩) ?_
      rotate_left 1
      ·intro w hSw
       obtain ⟨s0, s1, s2⟩ := hSw
       go_simp
       (try with_reducible rfl)
      (try simp only [Act.put, zq1, zq2, zq3, zq4, zq5, zq6])
      refine wpAnyH_done (by kernel_rfl) ?_ _
      obtain ⟨y, hy⟩ : ∃ y : List S52, y = [(⟨1, v1 ++ v2 ++ v3⟩ : S52), (⟨2, pl⟩ : S52)] := ⟨_, rfl⟩
      have HRES2 : Hid (dioramaref04_Put.f (pl.size + 2000) (⟨#[68, 73, 79, 80]⟩ : ByteArray) 2 y = some (rb, re)) := by rw [hy, ← HFI.out]; exact HRES
      have Ny := Lib.hid hy
      clear hy
      go_wp2_with (first | ((with_reducible refine gate_dst (N := 94) rfl ?_); refine Kd.R_lit k52 _ 52 ?hg (N := 94) ?hd (xs := ([(⟨1, v1 ++ v2 ++ v3⟩ : S52), (⟨2, pl⟩ : S52)] : List S52)) (inner := [.int .i64 1, .string (v1 ++ v2 ++ v3), .int .i64 2, .string pl]) (ok := fun _ => True) (okp := fun _ => True) ?hr ?hp (fun _ hk => hk) trivial (Below.refl _ _) (Nat.le_refl _) (by simp) ?_; (case hd => rfl); (case hg => rfl); (case hr => first | (go_simp; done) | (go_simp; rfl)); (case hp => exact (Reps.c2 (show Kd.M k52 _ _ _ (⟨1, v1 ++ v2 ++ v3⟩ : S52) [.int .i64 1, .string (v1 ++ v2 ++ v3)] from (k52_mkM _ _ _ (⟨1, v1 ++ v2 ++ v3⟩ : S52))) (Reps.c2 (show Kd.M k52 _ _ _ (⟨2, pl⟩ : S52) [.int .i64 2, .string pl] from (k52_mkM _ _ _ (⟨2, pl⟩ : S52))) (Reps.none _ _)))); intro v231 w36 ho37 hb36 hg_ hnew_; clear hg_ hnew_; rw [← Ny.out] at ho37; have HB36 := Lib.hid (below_step BX_.out.2 hb36); obtain ⟨Ao, co, eo⟩ := Kd.R_slice ho37; subst eo; have HRo := Lib.hid ho37; clear ho37 hb36) | (go_at_call 31; (with_reducible refine (dioramaref04_Put.calls _ (⟨#[68, 73, 79, 80]⟩ : ByteArray) 2 _ _ y rb re _ ?side1 ?side2 HRES2.out).mono ?_); (case side1 => exact (Kd.R_reads' HRo.out).2.2); (case side2 => exact (Kd.R_reads' HRo.out).2.1); rintro e w39 ⟨rfl, hb39⟩))
      go_ret2
      exact ⟨rfl, below_step HB36.out hb39⟩
     ·skip
      have cv := Kd.C_string (P := Try.prog) (src := 72) (dst := 9) (e := 5) (c := 1) Try.underlying72 Try.underlying5 Try.underlying9 CX.out
      rw [← HV3.out] at cv
      go_simp
      have BY := BX_
      clear cv
      obtain ⟨d0, d1, d2, _, _⟩ := cells61 BY
      refine hK.out _ _ ⟨d0, d1, d2⟩ (fun hHeld => ?_)
      clear hK K d0 d1 d2 BX_
      have BX_ := BY
      clear BY
      (try simp only [Act.put, zq1, zq2, zq3, zq4, zq5, zq6])
      refine wpAnyH_ready (rs := [6]) (by kernel_rfl) (by simp) ?_
      refine AllReadyH.cons (o := _) rfl (fun K hK => ?_) AllReadyH.nil
      go_simp
      go_at_call 25
      refine (dioramaref03_Put.calls 5 len v2 _ HV2.out).mono ?_
      rintro e w_51 ⟨rfl, hb_⟩
      have BY := boxT BX_ hb_
      have CX2 := Lib.hid (Kd.C_below CX.out hb_)
      clear CX
      have CX := CX2
      clear CX2
      obtain ⟨d0, d1, d2, _, _⟩ := cells61 BY
      refine hK.out _ _ ⟨d0, d1, d2⟩ (fun hHeld => ?_)
      clear hK K d0 d1 d2 BX_
      have BX_ := BY
      clear BY
      (try simp only [Act.put, zq1, zq2, zq3, zq4, zq5, zq6])
      refine tkz 7 rfl ?_ (.inl ⟨by rfl, ?_⟩) ?_
      rotate_left 1
      ·intro w hSw
       obtain ⟨s0, s1, s2⟩ := hSw
       go_simp
       (try with_reducible rfl)
      (try simp only [Act.put, zq1, zq2, zq3, zq4, zq5, zq6])
      refine tkz 13 rfl ?_ (.inl ⟨by rfl, ?_⟩) ?_
      rotate_left 1
      ·intro w hSw
       obtain ⟨s0, s1, s2⟩ := hSw
       go_simp
       (try with_reducible rfl)
      (try simp only [Act.put, zq1, zq2, zq3, zq4, zq5, zq6])
      refine tkz 14 rfl ?_ (.inl ⟨by rfl, ?_⟩) ?_
      rotate_left 1
      ·intro w hSw
       obtain ⟨s0, s1, s2⟩ := hSw
       go_simp
       (try with_reducible rfl)
      (try simp only [Act.put, zq1, zq2, zq3, zq4, zq5, zq6])
      refine wpAnyH_done (by kernel_rfl) ?_ _
      obtain ⟨y, hy⟩ : ∃ y : List S52, y = [(⟨1, v1 ++ v2 ++ v3⟩ : S52), (⟨2, pl⟩ : S52)] := ⟨_, rfl⟩
      have HRES2 : Hid (dioramaref04_Put.f (pl.size + 2000) (⟨#[68, 73, 79, 80]⟩ : ByteArray) 2 y = some (rb, re)) := by rw [hy, ← HFI.out]; exact HRES
      have Ny := Lib.hid hy
      clear hy
      go_wp2_with (first | ((with_reducible refine gate_dst (N := 94) rfl ?_); refine Kd.R_lit k52 _ 52 ?hg (N := 94) ?hd (xs := ([(⟨1, v1 ++ v2 ++ v3⟩ : S52), (⟨2, pl⟩ : S52)] : List S52)) (inner := [.int .i64 1, .string (v1 ++ v2 ++ v3), .int .i64 2, .string pl]) (ok := fun _ => True) (okp := fun _ => True) ?hr ?hp (fun _ hk => hk) trivial (Below.refl _ _) (Nat.le_refl _) (by simp) ?_; (case hd => rfl); (case hg => rfl); (case hr => first | (go_simp; done) | (go_simp; rfl)); (case hp => exact (Reps.c2 (show Kd.M k52 _ _ _ (⟨1, v1 ++ v2 ++ v3⟩ : S52) [.int .i64 1, .string (v1 ++ v2 ++ v3)] from (k52_mkM _ _ _ (⟨1, v1 ++ v2 ++ v3⟩ : S52))) (Reps.c2 (show Kd.M k52 _ _ _ (⟨2, pl⟩ : S52) [.int .i64 2, .string pl] from (k52_mkM _ _ _ (⟨2, pl⟩ : S52))) (Reps.none _ _)))); intro v231 w36 ho37 hb36 hg_ hnew_; clear hg_ hnew_; rw [← Ny.out] at ho37; have HB36 := Lib.hid (below_step BX_.out.2 hb36); obtain ⟨Ao, co, eo⟩ := Kd.R_slice ho37; subst eo; have HRo := Lib.hid ho37; clear ho37 hb36) | (go_at_call 31; (with_reducible refine (dioramaref04_Put.calls _ (⟨#[68, 73, 79, 80]⟩ : ByteArray) 2 _ _ y rb re _ ?side1 ?side2 HRES2.out).mono ?_); (case side1 => exact (Kd.R_reads' HRo.out).2.2); (case side2 => exact (Kd.R_reads' HRo.out).2.1); rintro e w39 ⟨rfl, hb39⟩))
      go_ret2
      exact ⟨rfl, below_step HB36.out hb39⟩
    ·skip
     have cv := Kd.C_string (P := Try.prog) (src := 72) (dst := 9) (e := 5) (c := 1) Try.underlying72 Try.underlying5 Try.underlying9 CX.out
     rw [← HV3.out] at cv
     go_simp
     have BY := BX_
     clear cv
     obtain ⟨d0, d1, d2, _, _⟩ := cells61 BY
     refine hK.out _ _ ⟨d0, d1, d2⟩ (fun hHeld => ?_)
     clear hK K d0 d1 d2 BX_
     have BX_ := BY
     clear BY
     (try simp only [Act.put, zq1, zq2, zq3, zq4, zq5, zq6])
     refine wpAnyH_ready (rs := [2]) (by kernel_rfl) (by simp) ?_
     refine AllReadyH.cons (o := _) rfl (fun K hK => ?_) AllReadyH.nil
     go_simp
     go_at_call 25
     refine (dioramaref03_Put.calls 5 sum v1 _ HV1.out).mono ?_
     rintro e w_53 ⟨rfl, hb_⟩
     have BY := boxT BX_ hb_
     have CX2 := Lib.hid (Kd.C_below CX.out hb_)
     clear CX
     have CX := CX2
     clear CX2
     obtain ⟨d0, d1, d2, _, _⟩ := cells61 BY
     refine hK.out _ _ ⟨d0, d1, d2⟩ (fun hHeld => ?_)
     clear hK K d0 d1 d2 BX_
     have BX_ := BY
     clear BY
     (try simp only [Act.put, zq1, zq2, zq3, zq4, zq5, zq6])
     refine wpAnyH_ready (rs := [6]) (by kernel_rfl) (by simp) ?_
     refine AllReadyH.cons (o := _) rfl (fun K hK => ?_) AllReadyH.nil
     go_simp
     go_at_call 25
     refine (dioramaref03_Put.calls 5 len v2 _ HV2.out).mono ?_
     rintro e w_54 ⟨rfl, hb_⟩
     have BY := boxT BX_ hb_
     have CX2 := Lib.hid (Kd.C_below CX.out hb_)
     clear CX
     have CX := CX2
     clear CX2
     obtain ⟨d0, d1, d2, _, _⟩ := cells61 BY
     refine hK.out _ _ ⟨d0, d1, d2⟩ (fun hHeld => ?_)
     clear hK K d0 d1 d2 BX_
     have BX_ := BY
     clear BY
     (try simp only [Act.put, zq1, zq2, zq3, zq4, zq5, zq6])
     refine tkz 7 rfl ?_ (.inl ⟨by rfl, ?_⟩) ?_
     rotate_left 1
     ·intro w hSw
      obtain ⟨s0, s1, s2⟩ := hSw
      go_simp
      (try with_reducible rfl)
     (try simp only [Act.put, zq1, zq2, zq3, zq4, zq5, zq6])
     refine tkz 13 rfl ?_ (.inl ⟨by rfl, ?_⟩) ?_
     rotate_left 1
     ·intro w hSw
      obtain ⟨s0, s1, s2⟩ := hSw
      go_simp
      (try with_reducible rfl)
     (try simp only [Act.put, zq1, zq2, zq3, zq4, zq5, zq6])
     refine tkz 14 rfl ?_ (.inl ⟨by rfl, ?_⟩) ?_
     rotate_left 1
     ·intro w hSw
      obtain ⟨s0, s1, s2⟩ := hSw
      go_simp
      (try with_reducible rfl)
     (try simp only [Act.put, zq1, zq2, zq3, zq4, zq5, zq6])
     refine wpAnyH_done (by kernel_rfl) ?_ _
     obtain ⟨y, hy⟩ : ∃ y : List S52, y = [(⟨1, v1 ++ v2 ++ v3⟩ : S52), (⟨2, pl⟩ : S52)] := ⟨_, rfl⟩
     have HRES2 : Hid (dioramaref04_Put.f (pl.size + 2000) (⟨#[68, 73, 79, 80]⟩ : ByteArray) 2 y = some (rb, re)) := by rw [hy, ← HFI.out]; exact HRES
     have Ny := Lib.hid hy
     clear hy
     go_wp2_with (first | ((with_reducible refine gate_dst (N := 94) rfl ?_); refine Kd.R_lit k52 _ 52 ?hg (N := 94) ?hd (xs := ([(⟨1, v1 ++ v2 ++ v3⟩ : S52), (⟨2, pl⟩ : S52)] : List S52)) (inner := [.int .i64 1, .string (v1 ++ v2 ++ v3), .int .i64 2, .string pl]) (ok := fun _ => True) (okp := fun _ => True) ?hr ?hp (fun _ hk => hk) trivial (Below.refl _ _) (Nat.le_refl _) (by simp) ?_; (case hd => rfl); (case hg => rfl); (case hr => first | (go_simp; done) | (go_simp; rfl)); (case hp => exact (Reps.c2 (show Kd.M k52 _ _ _ (⟨1, v1 ++ v2 ++ v3⟩ : S52) [.int .i64 1, .string (v1 ++ v2 ++ v3)] from (k52_mkM _ _ _ (⟨1, v1 ++ v2 ++ v3⟩ : S52))) (Reps.c2 (show Kd.M k52 _ _ _ (⟨2, pl⟩ : S52) [.int .i64 2, .string pl] from (k52_mkM _ _ _ (⟨2, pl⟩ : S52))) (Reps.none _ _)))); intro v231 w36 ho37 hb36 hg_ hnew_; clear hg_ hnew_; rw [← Ny.out] at ho37; have HB36 := Lib.hid (below_step BX_.out.2 hb36); obtain ⟨Ao, co, eo⟩ := Kd.R_slice ho37; subst eo; have HRo := Lib.hid ho37; clear ho37 hb36) | (go_at_call 31; (with_reducible refine (dioramaref04_Put.calls _ (⟨#[68, 73, 79, 80]⟩ : ByteArray) 2 _ _ y rb re _ ?side1 ?side2 HRES2.out).mono ?_); (case side1 => exact (Kd.R_reads' HRo.out).2.2); (case side2 => exact (Kd.R_reads' HRo.out).2.1); rintro e w39 ⟨rfl, hb39⟩))
     go_ret2
     exact ⟨rfl, below_step HB36.out hb39⟩
def okOpB (o : S107) : Bool := o.f2.all (fun s => decide (-9223372036854775808 ≤ s.f2 ∧ s.f2 ≤ 9223372036854775807)) && o.f4.f1.all (fun v => decide (-9223372036854775808 ≤ v ∧ v ≤ 9223372036854775807))
theorem okOp_of {o : S107} (h : okOpB o = true) : okOp o := by
 unfold okOpB at h
 rw [Bool.and_eq_true, List.all_eq_true, List.all_eq_true] at h
 exact ⟨fun s hs => of_decide_eq_true (h.1 s hs), fun v hv => of_decide_eq_true (h.2 v hv)⟩
def dioramaref24_Put.f (sum len way : Int) (ops : List (S107)) (file : ByteArray) : Option (ByteArray × Int) :=
 if way < 0 ∨ 2 < way ∨ len < 0 ∨ 4294967295 < len then some (⟨#[]⟩, 1)
 else if 0 < ops.length ∧ way ≠ 1 then some (⟨#[]⟩, 1)
 else if file.toList.isEmpty = false ∧ way ≠ 2 then some (⟨#[]⟩, 1)
 else if sum < 0 ∨ 4294967295 < sum then none
 else if way = 1 then (if 140737488355328 < (opsB ops).length ∨ ops.all okOpB = false then none else if ops.all refOk = true then tailR sum len 1 (strB (opsB ops)) else some (⟨#[]⟩, 21))
 else tailR sum len way file
theorem dioramaref24_Put.calls (sum len way : Int) (A3 : Option Addr) (c3 : Nat) (ops : List (S107)) (file : ByteArray) (r1 : ByteArray) (r2 : Int) (w : World) (hr3 : Kd.C k107 w A3 ops.length ops) (hc3 : ops.length ≤ c3) (h : dioramaref24_Put.f sum len way ops file = some (r1, r2)) :
  Calls Try.prog 38 #[.agg #[.int .u32 sum, .int .i64 len, .int .i64 way, .slice A3 ops.length c3, .string file]] w fun e w' => e = .returned (.tuple #[.string r1, .int .i64 r2]) ∧ Below w.heap.size w w' := by
 unfold dioramaref24_Put.f at h
 by_cases hw0 : way < 0
 ·rw [if_pos (.inl hw0)] at h; cases h; exact rput_way0 sum len way A3 c3 ops file w hw0
 by_cases hw2 : 2 < way
 ·rw [if_pos (.inr (.inl hw2))] at h; cases h; exact rput_way3 sum len way A3 c3 ops file w hw2
 by_cases hl0 : len < 0
 ·rw [if_pos (.inr (.inr (.inl hl0)))] at h; cases h; exact rput_len0 sum len way A3 c3 ops file w (by omega) hl0
 by_cases hl1 : 4294967295 < len
 ·rw [if_pos (.inr (.inr (.inr hl1)))] at h; cases h; exact rput_lenm sum len way A3 c3 ops file w (by omega) hl1
 rw [if_neg (by omega)] at h
 by_cases h1 : way = 1
 ·subst h1
  rw [if_neg (fun h_ => h_.2 rfl)] at h
  cases hf : file.toList.isEmpty with
  | false => rw [hf, if_pos ⟨rfl, by decide⟩] at h; cases h; exact rput_file1 sum len A3 c3 ops file w (by omega) hf
  | true =>
   rw [hf, if_neg (by simp)] at h
   by_cases hs : sum < 0 ∨ 4294967295 < sum
   ·rw [if_pos hs] at h; cases h
   rw [if_neg hs, if_pos rfl] at h
   by_cases hb : 140737488355328 < (opsB ops).length ∨ ops.all okOpB = false
   ·rw [if_pos hb] at h; cases h
   rw [if_neg hb] at h
   have hok : ∀ o ∈ ops, okOp o := by
    cases ha : ops.all okOpB with
    | false => exact absurd (.inr ha) hb
    | true => rw [List.all_eq_true] at ha; exact fun o ho => okOp_of (ha o ho)
   have hlen : (opsB ops).length ≤ 140737488355328 := by
    rcases Nat.lt_or_ge 140737488355328 (opsB ops).length with h2 | h2
    ·exact absurd (.inl h2) hb
    ·exact h2
   cases hno : ops.all refOk with
   | true => rw [hno, if_pos rfl] at h; exact rput_ops sum len A3 c3 ops file w (by omega) (by omega) hf hr3 hok hlen hno _ _ h
   | false => rw [hno, if_neg Bool.false_ne_true] at h; cases h; exact rput_ops21 sum len A3 c3 ops file w (by omega) (by omega) hf hr3 hok hlen hno
 by_cases ho : 0 < ops.length
 ·rw [if_pos ⟨ho, h1⟩] at h; cases h; exact rput_opsm sum len way A3 c3 ops file w (by omega) (by omega) ho h1
 obtain rfl : ops = [] := List.eq_nil_of_length_eq_zero (by omega)
 rw [if_neg (fun h_ => ho h_.1)] at h
 by_cases h2 : way = 2
 ·subst h2
  rw [if_neg (fun h_ => h_.2 rfl)] at h
  by_cases hs : sum < 0 ∨ 4294967295 < sum
  ·rw [if_pos hs] at h; cases h
  rw [if_neg hs, if_neg (by decide)] at h
  exact rput_w2 sum len A3 c3 file w (by omega) (by omega) _ _ h
 obtain rfl : way = 0 := by omega
 cases hf : file.toList.isEmpty with
 | false => rw [hf, if_pos ⟨rfl, by decide⟩] at h; cases h; exact rput_file0 sum len A3 c3 file w (by omega) hf
 | true =>
  rw [hf, if_neg (by simp)] at h
  by_cases hs : sum < 0 ∨ 4294967295 < sum
  ·rw [if_pos hs] at h; cases h
  rw [if_neg hs, if_neg (by decide)] at h
  exact rput_w0 sum len A3 c3 file w (by omega) (by omega) hf _ _ h
end Go.Proofs.Ytdjpelcdijpihaa.PrintF
