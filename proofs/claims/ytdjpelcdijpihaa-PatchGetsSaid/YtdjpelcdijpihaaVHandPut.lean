/- A part of the proof of the claim: what it uses of the text HandPut. -/
import Derived.Test.YtdjpelcdijpihaaShort
import Derived.Test.YtdjpelcdijpihaaVHandRefA
import Derived.Test.YtdjpelcdijpihaaVCrcBytes
namespace Go.Proofs.Ytdjpelcdijpihaa.PrintF
open Go.RowKit Go.Proofs.Ytdjpelcdijpihaa.Print Go.Proofs.YtdjpelcdijpihaaW.PrintWords Go.Proofs.YtdjpelcdijpihaaW.PrintLast Go.Lib
set_option linter.unusedVariables false
set_option linter.unusedSimpArgs false
theorem numB_pos (n : Int) : 1 ≤ (numB n).length := by
 unfold numB u8s vb vbN
 split <;> simp
def firstP (sum len way : Int) : ByteArray := (strOfNums (Pure.le4 sum) ++ strOfNums (Pure.le4 len)) ++ strOfNums [way]
def tailP (sum len way : Int) (p : ByteArray) : Option (ByteArray × Int) := frame_Put.f ⟨#[68, 73, 79, 80]⟩ 2 [⟨1, firstP sum len way⟩, ⟨2, p⟩]
theorem one_C {w : World} {g : Nat} {x : Int} (h : w.heap[g]? = some (.cells #[.int .u8 x] 5 (0, 0))) : (Kd.int .u8).C w (some ⟨g, 0, none⟩) 1 [x] :=
 ⟨rfl, by decide, fun _ => ⟨⟨g, 0, none⟩, rfl, fun j p hj => ⟨[.int .u8 p], rfl, rfl, fun i u hu => by
  match j, hj with
  | 0, hj =>
   obtain rfl := Option.some.inj hj
   match i, hu with
   | 0, hu =>
    obtain rfl := Option.some.inj hu
    exact (blk_cell h 0).trans rfl
   | i + 1, hu => simp at hu
  | j + 1, hj => simp at hj⟩⟩⟩
theorem box57 {w0 W W' : World} {g : Nat} {cs : Array Value} (h : Hid (W.heap[g]? = some (.cells cs 57 (0, 0)) ∧ Below w0.heap.size w0 W)) (k : Below W.heap.size W W') : Hid (W'.heap[g]? = some (.cells cs 57 (0, 0)) ∧ Below w0.heap.size w0 W') :=
 ⟨blk_below h.out.1 k, below_step h.out.2 k⟩
theorem cells57 {w0 W : World} {g : Nat} {a b c d e : Value} (h : Hid (W.heap[g]? = some (.cells #[a, b, c, d, e] 57 (0, 0)) ∧ Below w0.heap.size w0 W)) :
  W.cell? ⟨g, 0, none⟩ = some a ∧ W.cell? ⟨g, 1, none⟩ = some b ∧ W.cell? ⟨g, 2, none⟩ = some c ∧ W.cell? ⟨g, 3, none⟩ = some d ∧ W.cell? ⟨g, 4, none⟩ = some e :=
 ⟨(blk_cell h.out.1 0).trans rfl, (blk_cell h.out.1 1).trans rfl, (blk_cell h.out.1 2).trans rfl, (blk_cell h.out.1 3).trans rfl, (blk_cell h.out.1 4).trans rfl⟩
set_option maxHeartbeats 8000000 in
set_option maxRecDepth 100000 in
theorem put_way3 (sum len way : Int) (A3 : Option Addr) (c3 : Nat) (ops : List S107) (file : ByteArray) (w0 : World) (h : 2 < way) :
  Calls Try.prog 37 #[.agg #[.int .u32 sum, .int .i64 len, .int .i64 way, .slice A3 ops.length c3, .string file]] w0 fun e w' => e = .returned (.tuple #[.string ⟨#[]⟩, .int .i64 1]) ∧ Below w0.heap.size w0 w' := by
 have t1 : decide (way < 0) = false := decide_eq_false (by omega)
 have t2 : decide (2 < way) = true := decide_eq_true (h)
 clear h
 go_enter Try.func37, Try.ntmps37
 go_wp2_with fail
 go_ret2
 exact ⟨rfl, (Below.refl _ _).alloc (Nat.le_refl _) _⟩
set_option maxHeartbeats 8000000 in
set_option maxRecDepth 100000 in
theorem put_file0 (sum len way : Int) (A3 : Option Addr) (c3 : Nat) (file : ByteArray) (w0 : World) (hw : 0 ≤ way ∧ way ≤ 2) (hl : 0 ≤ len ∧ len ≤ 4294967295) (h1 : way ≠ 1) (hf : file.toList.isEmpty = true) (rb : ByteArray) (re : Int) (hres : tailP sum len way file = some (rb, re)) :
  Calls Try.prog 37 #[.agg #[.int .u32 sum, .int .i64 len, .int .i64 way, .slice A3 0 c3, .string file]] w0 fun e w' => e = .returned (.tuple #[.string rb, .int .i64 re]) ∧ Below w0.heap.size w0 w' := by
 have t1 : decide (way < 0) = false := decide_eq_false (by omega)
 have t2 : decide (2 < way) = false := decide_eq_false (by omega)
 have t3 : decide (len < 0) = false := decide_eq_false (by omega)
 have t4 : decide (4294967295 < len) = false := decide_eq_false (by omega)
 have t8 : (way == 1) = false := beq_eq_false_iff_ne.mpr h1
 have HRES := Lib.hid hres
 have LB := Lib.hid hl
 have WB := Lib.hid hw
 clear hres h1
 have BX_ : Hid ((w0.alloc (.cells #[.int .u32 sum, .int .i64 len, .int .i64 way, .slice A3 0 c3, .string file] 57)).heap[w0.heap.size]? = some (.cells #[.int .u32 sum, .int .i64 len, .int .i64 way, .slice A3 0 c3, .string file] 57 (0, 0)) ∧ Below w0.heap.size w0 (w0.alloc (.cells #[.int .u32 sum, .int .i64 len, .int .i64 way, .slice A3 0 c3, .string file] 57))) := Lib.hid ⟨heap_alloc_new w0 _, (Below.refl _ _).alloc (Nat.le_refl _) _⟩
 have hY := cells57 BX_
 obtain ⟨c0, c1, c2, c3', c4⟩ := hY
 skip
 go_enter Try.func37, Try.ntmps37
 go_wp2_with fail
 generalize w0.alloc (.cells #[.int .u32 sum, .int .i64 len, .int .i64 way, .slice A3 0 c3, .string file] 57) = W at BX_ ⊢
 obtain ⟨g, hgX⟩ : ∃ g, g = w0.heap.size := ⟨_, rfl⟩
 rw [← hgX]
 have BX2 : Hid (W.heap[g]? = some (.cells #[.int .u32 sum, .int .i64 len, .int .i64 way, .slice A3 0 c3, .string file] 57 (0, 0)) ∧ Below w0.heap.size w0 W) := by rw [hgX]; exact BX_
 clear BX_
 have BX_ := BX2
 clear BX2 hgX
 clear c0 c1 c2 c3' c4
 obtain ⟨v1, hv1⟩ : ∃ v, v = strOfNums (Pure.le4 sum) := ⟨_, rfl⟩
 obtain ⟨v2, hv2⟩ : ∃ v, v = strOfNums (Pure.le4 len) := ⟨_, rfl⟩
 obtain ⟨v3, hv3⟩ : ∃ v, v = strOfNums [way] := ⟨_, rfl⟩
 have hs1 : v1.size = 4 := by rw [hv1, strOfNums_size]; rfl
 have hs2 : v2.size = 4 := by rw [hv2, strOfNums_size]; rfl
 have hs3 : v3.size = 1 := by rw [hv3, strOfNums_size]; rfl
 have x1 : (9223372036854775807 < v1.size + v2.size) = False := eq_false (by omega)
 have x2 : (9223372036854775807 < v1.size + v2.size + v3.size) = False := eq_false (by omega)
 have HV1 : Hid (crc_Put.f sum = some v1) := Lib.hid (by rw [hv1]; rfl)
 have HV2 : Hid (crc_Put.f len = some v2) := Lib.hid (by rw [hv2]; rfl)
 have HFI : Hid (firstP sum len way = v1 ++ v2 ++ v3) := Lib.hid (by rw [hv1, hv2, hv3]; rfl)
 have HV3 := Lib.hid hv3
 clear hv1 hv2 hv3 hs1 hs2 hs3
 have hw3 : IntKind.u32.wrap len = len := by rw [IntKind.wrap_u32]; omega
 have hw5 : IntKind.u8.wrap way = way := by rw [IntKind.wrap_u8]; omega
 have hu5 := Try.underlying5
 have hu72 := Try.underlying72
 have hu9 := Try.underlying9
 have BD := Lib.hid (show _ ∧ _ from (⟨blk_drew BX_.out.1, below_drew1 BX_.out.2⟩ : _ ∧ Below w0.heap.size w0 _))
 obtain ⟨d0, d1, d2, _, _⟩ := cells57 BD
 refine wp_region_held_drew (S := fun w' => w'.cell? ⟨g, 0, none⟩ = some (.int .u32 sum) ∧ w'.cell? ⟨g, 1, none⟩ = some (.int .i64 len) ∧ w'.cell? ⟨g, 2, none⟩ = some (.int .i64 way)) (by kernel_rfl) ⟨d0, d1, d2⟩ (fun hHeld => ?_)
 clear d0 d1 d2 BX_
 have BX_ := BD
 clear BD
 generalize W.drew = W1 at BX_ hHeld ⊢
 refine tkz 0 rfl ?_ (.inl ⟨by rfl, ?_⟩) ?_
 rotate_left 1
 ·intro w hSw
  obtain ⟨s0, s1, s2⟩ := hSw
  go_simp
  (try with_reducible rfl)
 (try simp only [Act.put, zq1, zq2, zq3, zq4, zq5, zq6])
 refine tkz 1 rfl ?_ (.inl ⟨by rfl, ?_⟩) ?_
 rotate_left 1
 ·intro w hSw
  obtain ⟨s0, s1, s2⟩ := hSw
  go_simp
  (try with_reducible rfl)
 (try simp only [Act.put, zq1, zq2, zq3, zq4, zq5, zq6])
 refine tkz 3 rfl ?_ (.inl ⟨by rfl, ?_⟩) ?_
 rotate_left 1
 ·intro w hSw
  obtain ⟨s0, s1, s2⟩ := hSw
  go_simp
  (try with_reducible rfl)
 (try simp only [Act.put, zq1, zq2, zq3, zq4, zq5, zq6])
 refine tkz 4 rfl ?_ (.inl ⟨by rfl, ?_⟩) ?_
 rotate_left 1
 ·intro w hSw
  obtain ⟨s0, s1, s2⟩ := hSw
  go_simp
  (try with_reducible rfl)
 (try simp only [Act.put, zq1, zq2, zq3, zq4, zq5, zq6])
 refine tkz 5 rfl ?_ (.inl ⟨by rfl, ?_⟩) ?_
 rotate_left 1
 ·intro w hSw
  obtain ⟨s0, s1, s2⟩ := hSw
  go_simp
  (try with_reducible rfl)
 (try simp only [Act.put, zq1, zq2, zq3, zq4, zq5, zq6])
 refine tkz 8 rfl ?_ (.inl ⟨by rfl, ?_⟩) ?_
 rotate_left 1
 ·intro w hSw
  obtain ⟨s0, s1, s2⟩ := hSw
  go_simp
  (try with_reducible rfl)
 (try simp only [Act.put, zq1, zq2, zq3, zq4, zq5, zq6])
 refine tkz 9 rfl ?_ (.inl ⟨by rfl, ?_⟩) ?_
 rotate_left 1
 ·intro w hSw
  obtain ⟨s0, s1, s2⟩ := hSw
  go_simp
  (try with_reducible rfl)
 (try simp only [Act.put, zq1, zq2, zq3, zq4, zq5, zq6])
 refine tkz 10 rfl ?_ (.inl ⟨by rfl, ?_⟩) ?_
 rotate_left 1
 ·intro w hSw
  obtain ⟨s0, s1, s2⟩ := hSw
  go_simp
  (try with_reducible rfl)
 (try simp only [Act.put, zq1, zq2, zq3, zq4, zq5, zq6])
 refine wpAnyH_ready (rs := [2, 11]) (by kernel_rfl) (by simp) ?_
 refine AllReadyH.cons (o := _) rfl (fun K hK => ?_) (AllReadyH.cons (o := _) rfl (fun K hK => ?_) AllReadyH.nil)
 ·skip
  go_simp
  go_at_call 24
  refine (crc_Put.calls sum v1 _ HV1.out).mono ?_
  rintro e w_1 ⟨rfl, hb_⟩
  have BY := box57 BX_ hb_
  obtain ⟨d0, d1, d2, _, _⟩ := cells57 BY
  refine hK.out _ _ ⟨d0, d1, d2⟩ (fun hHeld => ?_)
  clear hK K d0 d1 d2 BX_
  have BX_ := BY
  clear BY
  (try simp only [Act.put, zq1, zq2, zq3, zq4, zq5, zq6])
  refine wpAnyH_ready (rs := [6, 11]) (by kernel_rfl) (by simp) ?_
  refine AllReadyH.cons (o := _) rfl (fun K hK => ?_) (AllReadyH.cons (o := _) rfl (fun K hK => ?_) AllReadyH.nil)
  ·skip
   go_simp
   go_at_call 24
   refine (crc_Put.calls len v2 _ HV2.out).mono ?_
   rintro e w_2 ⟨rfl, hb_⟩
   have BY := box57 BX_ hb_
   obtain ⟨d0, d1, d2, _, _⟩ := cells57 BY
   refine hK.out _ _ ⟨d0, d1, d2⟩ (fun hHeld => ?_)
   clear hK K d0 d1 d2 BX_
   have BX_ := BY
   clear BY
   (try simp only [Act.put, zq1, zq2, zq3, zq4, zq5, zq6])
   refine tkz 7 rfl ?_ (.inl ⟨by rfl, ?_⟩) ?_
   rotate_left 1
   ·intro w hSw
    obtain ⟨s0, s1, s2⟩ := hSw
    go_simp
    (try with_reducible rfl)
   (try simp only [Act.put, zq1, zq2, zq3, zq4, zq5, zq6])
   refine wpAnyH_ready (rs := [11]) (by kernel_rfl) (by simp) ?_
   refine AllReadyH.cons (o := _) rfl (fun K hK => ?_) AllReadyH.nil
   go_simp
   have BY := box57 BX_ (below_alloc (Below.refl _ w_2) (.cells #[.int .u8 way] 5))
   have CX := Lib.hid (one_C (heap_alloc_new w_2 (.cells #[.int .u8 way] 5)))
   generalize w_2.alloc (.cells #[.int .u8 way] 5) = w_3 at BY CX ⊢
   obtain ⟨d0, d1, d2, _, _⟩ := cells57 BY
   refine hK.out _ _ ⟨d0, d1, d2⟩ (fun hHeld => ?_)
   clear hK K d0 d1 d2 BX_
   have BX_ := BY
   clear BY
   (try simp only [Act.put, zq1, zq2, zq3, zq4, zq5, zq6])
   refine wpAnyH_ready (rs := [12]) (by kernel_rfl) (by simp) ?_
   refine AllReadyH.cons (o := _) rfl (fun K hK => ?_) AllReadyH.nil
   have cv := Kd.C_string (P := Try.prog) (src := 72) (dst := 9) (e := 5) (c := 1) Try.underlying72 Try.underlying5 Try.underlying9 CX.out
   rw [← HV3.out] at cv
   go_simp
   have BY := BX_
   clear cv
   obtain ⟨d0, d1, d2, _, _⟩ := cells57 BY
   refine hK.out _ _ ⟨d0, d1, d2⟩ (fun hHeld => ?_)
   clear hK K d0 d1 d2 BX_
   have BX_ := BY
   clear BY
   (try simp only [Act.put, zq1, zq2, zq3, zq4, zq5, zq6])
   refine tkz 13 rfl ?_ (.inl ⟨by rfl, ?_⟩) ?_
   rotate_left 1
   ·intro w hSw
    obtain ⟨s0, s1, s2⟩ := hSw
    go_simp
    (try with_reducible rfl)
   (try simp only [Act.put, zq1, zq2, zq3, zq4, zq5, zq6])
   refine tkz 14 rfl ?_ (.inl ⟨by rfl, ?_⟩) ?_
   rotate_left 1
   ·intro w hSw
    obtain ⟨s0, s1, s2⟩ := hSw
    go_simp
    (try with_reducible rfl)
   (try simp only [Act.put, zq1, zq2, zq3, zq4, zq5, zq6])
   refine wpAnyH_done (by kernel_rfl) ?_ _
   skip
   obtain ⟨y, hy⟩ : ∃ y : List S52, y = [(⟨1, v1 ++ v2 ++ v3⟩ : S52), (⟨2, file⟩ : S52)] := ⟨_, rfl⟩
   have HRES2 : Hid (frame_Put.f (⟨#[68, 73, 79, 80]⟩ : ByteArray) 2 y = some (rb, re)) := by rw [hy, ← HFI.out]; exact HRES
   have Ny := Lib.hid hy
   clear hy
   go_wp2_with (first | ((with_reducible refine gate_dst (N := 89) rfl ?_); refine Kd.R_lit k52 _ 52 ?hg (N := 89) ?hd (xs := ([(⟨1, v1 ++ v2 ++ v3⟩ : S52), (⟨2, file⟩ : S52)] : List S52)) (inner := [.int .i64 1, .string (v1 ++ v2 ++ v3), .int .i64 2, .string file]) (ok := fun _ => True) (okp := fun _ => True) ?hr ?hp (fun _ hk => hk) trivial (Below.refl _ _) (Nat.le_refl _) (by simp) ?_; (case hd => rfl); (case hg => rfl); (case hr => first | (go_simp; done) | (go_simp; rfl)); (case hp => exact (Reps.c2 (show Kd.M k52 _ _ _ (⟨1, v1 ++ v2 ++ v3⟩ : S52) [.int .i64 1, .string (v1 ++ v2 ++ v3)] from (k52_mkM _ _ _ (⟨1, v1 ++ v2 ++ v3⟩ : S52))) (Reps.c2 (show Kd.M k52 _ _ _ (⟨2, file⟩ : S52) [.int .i64 2, .string file] from (k52_mkM _ _ _ (⟨2, file⟩ : S52))) (Reps.none _ _)))); intro v231 w36 ho37 hb36 hg_ hnew_; clear hg_ hnew_; rw [← Ny.out] at ho37; have HB36 := Lib.hid (below_step BX_.out.2 hb36); obtain ⟨Ao, co, eo⟩ := Kd.R_slice ho37; subst eo; have HRo := Lib.hid ho37; clear ho37 hb36) | (go_at_call 30; (with_reducible refine (frame_Put.calls (⟨#[68, 73, 79, 80]⟩ : ByteArray) 2 _ _ y rb re _ ?side1 ?side2 HRES2.out).mono ?_); (case side1 => exact (Kd.R_reads' HRo.out).2.2); (case side2 => exact (Kd.R_reads' HRo.out).2.1); rintro e w39 ⟨rfl, hb39⟩))
   go_ret2
   exact ⟨rfl, below_step HB36.out hb39⟩
  ·skip
   go_simp
   have BY := box57 BX_ (below_alloc (Below.refl _ w_1) (.cells #[.int .u8 way] 5))
   have CX := Lib.hid (one_C (heap_alloc_new w_1 (.cells #[.int .u8 way] 5)))
   generalize w_1.alloc (.cells #[.int .u8 way] 5) = w_5 at BY CX ⊢
   obtain ⟨d0, d1, d2, _, _⟩ := cells57 BY
   refine hK.out _ _ ⟨d0, d1, d2⟩ (fun hHeld => ?_)
   clear hK K d0 d1 d2 BX_
   have BX_ := BY
   clear BY
   (try simp only [Act.put, zq1, zq2, zq3, zq4, zq5, zq6])
   refine wpAnyH_ready (rs := [6, 12]) (by kernel_rfl) (by simp) ?_
   refine AllReadyH.cons (o := _) rfl (fun K hK => ?_) (AllReadyH.cons (o := _) rfl (fun K hK => ?_) AllReadyH.nil)
   ·skip
    go_simp
    go_at_call 24
    refine (crc_Put.calls len v2 _ HV2.out).mono ?_
    rintro e w_6 ⟨rfl, hb_⟩
    have BY := box57 BX_ hb_
    have CX2 := Lib.hid (Kd.C_below CX.out hb_)
    clear CX
    have CX := CX2
    clear CX2
    obtain ⟨d0, d1, d2, _, _⟩ := cells57 BY
    refine hK.out _ _ ⟨d0, d1, d2⟩ (fun hHeld => ?_)
    clear hK K d0 d1 d2 BX_
    have BX_ := BY
    clear BY
    (try simp only [Act.put, zq1, zq2, zq3, zq4, zq5, zq6])
    refine tkz 7 rfl ?_ (.inl ⟨by rfl, ?_⟩) ?_
    rotate_left 1
    ·intro w hSw
     obtain ⟨s0, s1, s2⟩ := hSw
     go_simp
     (try with_reducible rfl)
    (try simp only [Act.put, zq1, zq2, zq3, zq4, zq5, zq6])
    refine wpAnyH_ready (rs := [12]) (by kernel_rfl) (by simp) ?_
    refine AllReadyH.cons (o := _) rfl (fun K hK => ?_) AllReadyH.nil
    have cv := Kd.C_string (P := Try.prog) (src := 72) (dst := 9) (e := 5) (c := 1) Try.underlying72 Try.underlying5 Try.underlying9 CX.out
    rw [← HV3.out] at cv
    go_simp
    have BY := BX_
    clear cv
    obtain ⟨d0, d1, d2, _, _⟩ := cells57 BY
    refine hK.out _ _ ⟨d0, d1, d2⟩ (fun hHeld => ?_)
    clear hK K d0 d1 d2 BX_
    have BX_ := BY
    clear BY
    (try simp only [Act.put, zq1, zq2, zq3, zq4, zq5, zq6])
    refine tkz 13 rfl ?_ (.inl ⟨by rfl, ?_⟩) ?_
    rotate_left 1
    ·intro w hSw
     obtain ⟨s0, s1, s2⟩ := hSw
     go_simp
     (try with_reducible rfl)
    (try simp only [Act.put, zq1, zq2, zq3, zq4, zq5, zq6])
    refine tkz 14 rfl ?_ (.inl ⟨by rfl, ?_⟩) ?_
    rotate_left 1
    ·intro w hSw
     obtain ⟨s0, s1, s2⟩ := hSw
     go_simp
     (try with_reducible rfl)
    (try simp only [Act.put, zq1, zq2, zq3, zq4, zq5, zq6])
    refine wpAnyH_done (by kernel_rfl) ?_ _
    skip
    obtain ⟨y, hy⟩ : ∃ y : List S52, y = [(⟨1, v1 ++ v2 ++ v3⟩ : S52), (⟨2, file⟩ : S52)] := ⟨_, rfl⟩
    have HRES2 : Hid (frame_Put.f (⟨#[68, 73, 79, 80]⟩ : ByteArray) 2 y = some (rb, re)) := by rw [hy, ← HFI.out]; exact HRES
    have Ny := Lib.hid hy
    clear hy
    go_wp2_with (first | ((with_reducible refine gate_dst (N := 89) rfl ?_); refine Kd.R_lit k52 _ 52 ?hg (N := 89) ?hd (xs := ([(⟨1, v1 ++ v2 ++ v3⟩ : S52), (⟨2, file⟩ : S52)] : List S52)) (inner := [.int .i64 1, .string (v1 ++ v2 ++ v3), .int .i64 2, .string file]) (ok := fun _ => True) (okp := fun _ => True) ?hr ?hp (fun _ hk => hk) trivial (Below.refl _ _) (Nat.le_refl _) (by simp) ?_; (case hd => rfl); (case hg => rfl); (case hr => first | (go_simp; done) | (go_simp; rfl)); (case hp => exact (Reps.c2 (show Kd.M k52 _ _ _ (⟨1, v1 ++ v2 ++ v3⟩ : S52) [.int .i64 1, .string (v1 ++ v2 ++ v3)] from (k52_mkM _ _ _ (⟨1, v1 ++ v2 ++ v3⟩ : S52))) (Reps.c2 (show Kd.M k52 _ _ _ (⟨2, file⟩ : S52) [.int .i64 2, .string file] from (k52_mkM _ _ _ (⟨2, file⟩ : S52))) (Reps.none _ _)))); intro v231 w36 ho37 hb36 hg_ hnew_; clear hg_ hnew_; rw [← Ny.out] at ho37; have HB36 := Lib.hid (below_step BX_.out.2 hb36); obtain ⟨Ao, co, eo⟩ := Kd.R_slice ho37; subst eo; have HRo := Lib.hid ho37; clear ho37 hb36) | (go_at_call 30; (with_reducible refine (frame_Put.calls (⟨#[68, 73, 79, 80]⟩ : ByteArray) 2 _ _ y rb re _ ?side1 ?side2 HRES2.out).mono ?_); (case side1 => exact (Kd.R_reads' HRo.out).2.2); (case side2 => exact (Kd.R_reads' HRo.out).2.1); rintro e w39 ⟨rfl, hb39⟩))
    go_ret2
    exact ⟨rfl, below_step HB36.out hb39⟩
   ·skip
    have cv := Kd.C_string (P := Try.prog) (src := 72) (dst := 9) (e := 5) (c := 1) Try.underlying72 Try.underlying5 Try.underlying9 CX.out
    rw [← HV3.out] at cv
    go_simp
    have BY := BX_
    clear cv
    obtain ⟨d0, d1, d2, _, _⟩ := cells57 BY
    refine hK.out _ _ ⟨d0, d1, d2⟩ (fun hHeld => ?_)
    clear hK K d0 d1 d2 BX_
    have BX_ := BY
    clear BY
    (try simp only [Act.put, zq1, zq2, zq3, zq4, zq5, zq6])
    refine wpAnyH_ready (rs := [6]) (by kernel_rfl) (by simp) ?_
    refine AllReadyH.cons (o := _) rfl (fun K hK => ?_) AllReadyH.nil
    go_simp
    go_at_call 24
    refine (crc_Put.calls len v2 _ HV2.out).mono ?_
    rintro e w_9 ⟨rfl, hb_⟩
    have BY := box57 BX_ hb_
    have CX2 := Lib.hid (Kd.C_below CX.out hb_)
    clear CX
    have CX := CX2
    clear CX2
    obtain ⟨d0, d1, d2, _, _⟩ := cells57 BY
    refine hK.out _ _ ⟨d0, d1, d2⟩ (fun hHeld => ?_)
    clear hK K d0 d1 d2 BX_
    have BX_ := BY
    clear BY
    (try simp only [Act.put, zq1, zq2, zq3, zq4, zq5, zq6])
    refine tkz 7 rfl ?_ (.inl ⟨by rfl, ?_⟩) ?_
    rotate_left 1
    ·intro w hSw
     obtain ⟨s0, s1, s2⟩ := hSw
     go_simp
     (try with_reducible rfl)
    (try simp only [Act.put, zq1, zq2, zq3, zq4, zq5, zq6])
    refine tkz 13 rfl ?_ (.inl ⟨by rfl, ?_⟩) ?_
    rotate_left 1
    ·intro w hSw
     obtain ⟨s0, s1, s2⟩ := hSw
     go_simp
     (try with_reducible rfl)
    (try simp only [Act.put, zq1, zq2, zq3, zq4, zq5, zq6])
    refine tkz 14 rfl ?_ (.inl ⟨by rfl, ?_⟩) ?_
    rotate_left 1
    ·intro w hSw
     obtain ⟨s0, s1, s2⟩ := hSw
     go_simp
     (try with_reducible rfl)
    (try simp only [Act.put, zq1, zq2, zq3, zq4, zq5, zq6])
    refine wpAnyH_done (by kernel_rfl) ?_ _
    skip
    obtain ⟨y, hy⟩ : ∃ y : List S52, y = [(⟨1, v1 ++ v2 ++ v3⟩ : S52), (⟨2, file⟩ : S52)] := ⟨_, rfl⟩
    have HRES2 : Hid (frame_Put.f (⟨#[68, 73, 79, 80]⟩ : ByteArray) 2 y = some (rb, re)) := by rw [hy, ← HFI.out]; exact HRES
    have Ny := Lib.hid hy
    clear hy
    go_wp2_with (first | ((with_reducible refine gate_dst (N := 89) rfl ?_); refine Kd.R_lit k52 _ 52 ?hg (N := 89) ?hd (xs := ([(⟨1, v1 ++ v2 ++ v3⟩ : S52), (⟨2, file⟩ : S52)] : List S52)) (inner := [.int .i64 1, .string (v1 ++ v2 ++ v3), .int .i64 2, .string file]) (ok := fun _ => True) (okp := fun _ => True) ?hr ?hp (fun _ hk => hk) trivial (Below.refl _ _) (Nat.le_refl _) (by simp) ?_; (case hd => rfl); (case hg => rfl); (case hr => first | (go_simp; done) | (go_simp; rfl)); (case hp => exact (Reps.c2 (show Kd.M k52 _ _ _ (⟨1, v1 ++ v2 ++ v3⟩ : S52) [.int .i64 1, .string (v1 ++ v2 ++ v3)] from (k52_mkM _ _ _ (⟨1, v1 ++ v2 ++ v3⟩ : S52))) (Reps.c2 (show Kd.M k52 _ _ _ (⟨2, file⟩ : S52) [.int .i64 2, .string file] from (k52_mkM _ _ _ (⟨2, file⟩ : S52))) (Reps.none _ _)))); intro v231 w36 ho37 hb36 hg_ hnew_; clear hg_ hnew_; rw [← Ny.out] at ho37; have HB36 := Lib.hid (below_step BX_.out.2 hb36); obtain ⟨Ao, co, eo⟩ := Kd.R_slice ho37; subst eo; have HRo := Lib.hid ho37; clear ho37 hb36) | (go_at_call 30; (with_reducible refine (frame_Put.calls (⟨#[68, 73, 79, 80]⟩ : ByteArray) 2 _ _ y rb re _ ?side1 ?side2 HRES2.out).mono ?_); (case side1 => exact (Kd.R_reads' HRo.out).2.2); (case side2 => exact (Kd.R_reads' HRo.out).2.1); rintro e w39 ⟨rfl, hb39⟩))
    go_ret2
    exact ⟨rfl, below_step HB36.out hb39⟩
 ·skip
  go_simp
  have BY := box57 BX_ (below_alloc (Below.refl _ W1) (.cells #[.int .u8 way] 5))
  have CX := Lib.hid (one_C (heap_alloc_new W1 (.cells #[.int .u8 way] 5)))
  generalize W1.alloc (.cells #[.int .u8 way] 5) = w_10 at BY CX ⊢
  obtain ⟨d0, d1, d2, _, _⟩ := cells57 BY
  refine hK.out _ _ ⟨d0, d1, d2⟩ (fun hHeld => ?_)
  clear hK K d0 d1 d2 BX_
  have BX_ := BY
  clear BY
  (try simp only [Act.put, zq1, zq2, zq3, zq4, zq5, zq6])
  refine wpAnyH_ready (rs := [2, 12]) (by kernel_rfl) (by simp) ?_
  refine AllReadyH.cons (o := _) rfl (fun K hK => ?_) (AllReadyH.cons (o := _) rfl (fun K hK => ?_) AllReadyH.nil)
  ·skip
   go_simp
   go_at_call 24
   refine (crc_Put.calls sum v1 _ HV1.out).mono ?_
   rintro e w_11 ⟨rfl, hb_⟩
   have BY := box57 BX_ hb_
   have CX2 := Lib.hid (Kd.C_below CX.out hb_)
   clear CX
   have CX := CX2
   clear CX2
   obtain ⟨d0, d1, d2, _, _⟩ := cells57 BY
   refine hK.out _ _ ⟨d0, d1, d2⟩ (fun hHeld => ?_)
   clear hK K d0 d1 d2 BX_
   have BX_ := BY
   clear BY
   (try simp only [Act.put, zq1, zq2, zq3, zq4, zq5, zq6])
   refine wpAnyH_ready (rs := [6, 12]) (by kernel_rfl) (by simp) ?_
   refine AllReadyH.cons (o := _) rfl (fun K hK => ?_) (AllReadyH.cons (o := _) rfl (fun K hK => ?_) AllReadyH.nil)
   ·skip
    go_simp
    go_at_call 24
    refine (crc_Put.calls len v2 _ HV2.out).mono ?_
    rintro e w_12 ⟨rfl, hb_⟩
    have BY := box57 BX_ hb_
    have CX2 := Lib.hid (Kd.C_below CX.out hb_)
    clear CX
    have CX := CX2
    clear CX2
    obtain ⟨d0, d1, d2, _, _⟩ := cells57 BY
    refine hK.out _ _ ⟨d0, d1, d2⟩ (fun hHeld => ?_)
    clear hK K d0 d1 d2 BX_
    have BX_ := BY
    clear BY
    (try simp only [Act.put, zq1, zq2, zq3, zq4, zq5, zq6])
    refine tkz 7 rfl ?_ (.inl ⟨by rfl, ?_⟩) ?_
    rotate_left 1
    ·intro w hSw
     obtain ⟨s0, s1, s2⟩ := hSw
     go_simp
     (try with_reducible rfl)
    (try simp only [Act.put, zq1, zq2, zq3, zq4, zq5, zq6])
    refine wpAnyH_ready (rs := [12]) (by kernel_rfl) (by simp) ?_
    refine AllReadyH.cons (o := _) rfl (fun K hK => ?_) AllReadyH.nil
    have cv := Kd.C_string (P := Try.prog) (src := 72) (dst := 9) (e := 5) (c := 1) Try.underlying72 Try.underlying5 Try.underlying9 CX.out
    rw [← HV3.out] at cv
    go_simp
    have BY := BX_
    clear cv
    obtain ⟨d0, d1, d2, _, _⟩ := cells57 BY
    refine hK.out _ _ ⟨d0, d1, d2⟩ (fun hHeld => ?_)
    clear hK K d0 d1 d2 BX_
    have BX_ := BY
    clear BY
    (try simp only [Act.put, zq1, zq2, zq3, zq4, zq5, zq6])
    refine tkz 13 rfl ?_ (.inl ⟨by rfl, ?_⟩) ?_
    rotate_left 1
    ·intro w hSw
     obtain ⟨s0, s1, s2⟩ := hSw
     go_simp
     (try with_reducible rfl)
    (try simp only [Act.put, zq1, zq2, zq3, zq4, zq5, zq6])
    refine tkz 14 rfl ?_ (.inl ⟨by rfl, ?_⟩) ?_
    rotate_left 1
    ·intro w hSw
     obtain ⟨s0, s1, s2⟩ := hSw
     go_simp
     (try with_reducible rfl)
    (try simp only [Act.put, zq1, zq2, zq3, zq4, zq5, zq6])
    refine wpAnyH_done (by kernel_rfl) ?_ _
    skip
    obtain ⟨y, hy⟩ : ∃ y : List S52, y = [(⟨1, v1 ++ v2 ++ v3⟩ : S52), (⟨2, file⟩ : S52)] := ⟨_, rfl⟩
    have HRES2 : Hid (frame_Put.f (⟨#[68, 73, 79, 80]⟩ : ByteArray) 2 y = some (rb, re)) := by rw [hy, ← HFI.out]; exact HRES
    have Ny := Lib.hid hy
    clear hy
    go_wp2_with (first | ((with_reducible refine gate_dst (N := 89) rfl ?_); refine Kd.R_lit k52 _ 52 ?hg (N := 89) ?hd (xs := ([(⟨1, v1 ++ v2 ++ v3⟩ : S52), (⟨2, file⟩ : S52)] : List S52)) (inner := [.int .i64 1, .string (v1 ++ v2 ++ v3), .int .i64 2, .string file]) (ok := fun _ => True) (okp := fun _ => True) ?hr ?hp (fun _ hk => hk) trivial (Below.refl _ _) (Nat.le_refl _) (by simp) ?_; (case hd => rfl); (case hg => rfl); (case hr => first | (go_simp; done) | (go_simp; rfl)); (case hp => exact (Reps.c2 (show Kd.M k52 _ _ _ (⟨1, v1 ++ v2 ++ v3⟩ : S52) [.int .i64 1, .string (v1 ++ v2 ++ v3)] from (k52_mkM _ _ _ (⟨1, v1 ++ v2 ++ v3⟩ : S52))) (Reps.c2 (show Kd.M k52 _ _ _ (⟨2, file⟩ : S52) [.int .i64 2, .string file] from (k52_mkM _ _ _ (⟨2, file⟩ : S52))) (Reps.none _ _)))); intro v231 w36 ho37 hb36 hg_ hnew_; clear hg_ hnew_; rw [← Ny.out] at ho37; have HB36 := Lib.hid (below_step BX_.out.2 hb36); obtain ⟨Ao, co, eo⟩ := Kd.R_slice ho37; subst eo; have HRo := Lib.hid ho37; clear ho37 hb36) | (go_at_call 30; (with_reducible refine (frame_Put.calls (⟨#[68, 73, 79, 80]⟩ : ByteArray) 2 _ _ y rb re _ ?side1 ?side2 HRES2.out).mono ?_); (case side1 => exact (Kd.R_reads' HRo.out).2.2); (case side2 => exact (Kd.R_reads' HRo.out).2.1); rintro e w39 ⟨rfl, hb39⟩))
    go_ret2
    exact ⟨rfl, below_step HB36.out hb39⟩
   ·skip
    have cv := Kd.C_string (P := Try.prog) (src := 72) (dst := 9) (e := 5) (c := 1) Try.underlying72 Try.underlying5 Try.underlying9 CX.out
    rw [← HV3.out] at cv
    go_simp
    have BY := BX_
    clear cv
    obtain ⟨d0, d1, d2, _, _⟩ := cells57 BY
    refine hK.out _ _ ⟨d0, d1, d2⟩ (fun hHeld => ?_)
    clear hK K d0 d1 d2 BX_
    have BX_ := BY
    clear BY
    (try simp only [Act.put, zq1, zq2, zq3, zq4, zq5, zq6])
    refine wpAnyH_ready (rs := [6]) (by kernel_rfl) (by simp) ?_
    refine AllReadyH.cons (o := _) rfl (fun K hK => ?_) AllReadyH.nil
    go_simp
    go_at_call 24
    refine (crc_Put.calls len v2 _ HV2.out).mono ?_
    rintro e w_15 ⟨rfl, hb_⟩
    have BY := box57 BX_ hb_
    have CX2 := Lib.hid (Kd.C_below CX.out hb_)
    clear CX
    have CX := CX2
    clear CX2
    obtain ⟨d0, d1, d2, _, _⟩ := cells57 BY
    refine hK.out _ _ ⟨d0, d1, d2⟩ (fun hHeld => ?_)
    clear hK K d0 d1 d2 BX_
    have BX_ := BY
    clear BY
    (try simp only [Act.put, zq1, zq2, zq3, zq4, zq5, zq6])
    refine tkz 7 rfl ?_ (.inl ⟨by rfl, ?_⟩) ?_
    rotate_left 1
    ·intro w hSw
     obtain ⟨s0, s1, s2⟩ := hSw
     go_simp
     (try with_reducible rfl)
    (try simp only [Act.put, zq1, zq2, zq3, zq4, zq5, zq6])
    refine tkz 13 rfl ?_ (.inl ⟨by rfl, ?_⟩) ?_
    rotate_left 1
    ·intro w hSw
     obtain ⟨s0, s1, s2⟩ := hSw
     go_simp
     (try with_reducible rfl)
    (try simp only [Act.put, zq1, zq2, zq3, zq4, zq5, zq6])
    refine tkz 14 rfl ?_ (.inl ⟨by rfl, ?_⟩) ?_
    rotate_left 1
    ·intro w hSw
     obtain ⟨s0, s1, s2⟩ := hSw
     go_simp
     (try with_reducible rfl)
    (try simp only [Act.put, zq1, zq2, zq3, zq4, zq5, zq6])
    refine wpAnyH_done (by kernel_rfl) ?_ _
    skip
    obtain ⟨y, hy⟩ : ∃ y : List S52, y = [(⟨1, v1 ++ v2 ++ v3⟩ : S52), (⟨2, file⟩ : S52)] := ⟨_, rfl⟩
    have HRES2 : Hid (frame_Put.f (⟨#[68, 73, 79, 80]⟩ : ByteArray) 2 y = some (rb, re)) := by rw [hy, ← HFI.out]; exact HRES
    have Ny := Lib.hid hy
    clear hy
    go_wp2_with (first | ((with_reducible refine gate_dst (N := 89) rfl ?_); refine Kd.R_lit k52 _ 52 ?hg (N := 89) ?hd (xs := ([(⟨1, v1 ++ v2 ++ v3⟩ : S52), (⟨2, file⟩ : S52)] : List S52)) (inner := [.int .i64 1, .string (v1 ++ v2 ++ v3), .int .i64 2, .string file]) (ok := fun _ => True) (okp := fun _ => True) ?hr ?hp (fun _ hk => hk) trivial (Below.refl _ _) (Nat.le_refl _) (by simp) ?_; (case hd => rfl); (case hg => rfl); (case hr => first | (go_simp; done) | (go_simp; rfl)); (case hp => exact (Reps.c2 (show Kd.M k52 _ _ _ (⟨1, v1 ++ v2 ++ v3⟩ : S52) [.int .i64 1, .string (v1 ++ v2 ++ v3)] from (k52_mkM _ _ _ (⟨1, v1 ++ v2 ++ v3⟩ : S52))) (Reps.c2 (show Kd.M k52 _ _ _ (⟨2, file⟩ : S52) [.int .i64 2, .string file] from (k52_mkM _ _ _ (⟨2, file⟩ : S52))) (Reps.none _ _)))); intro v231 w36 ho37 hb36 hg_ hnew_; clear hg_ hnew_; rw [← Ny.out] at ho37; have HB36 := Lib.hid (below_step BX_.out.2 hb36); obtain ⟨Ao, co, eo⟩ := Kd.R_slice ho37; subst eo; have HRo := Lib.hid ho37; clear ho37 hb36) | (go_at_call 30; (with_reducible refine (frame_Put.calls (⟨#[68, 73, 79, 80]⟩ : ByteArray) 2 _ _ y rb re _ ?side1 ?side2 HRES2.out).mono ?_); (case side1 => exact (Kd.R_reads' HRo.out).2.2); (case side2 => exact (Kd.R_reads' HRo.out).2.1); rintro e w39 ⟨rfl, hb39⟩))
    go_ret2
    exact ⟨rfl, below_step HB36.out hb39⟩
  ·skip
   have cv := Kd.C_string (P := Try.prog) (src := 72) (dst := 9) (e := 5) (c := 1) Try.underlying72 Try.underlying5 Try.underlying9 CX.out
   rw [← HV3.out] at cv
   go_simp
   have BY := BX_
   clear cv
   obtain ⟨d0, d1, d2, _, _⟩ := cells57 BY
   refine hK.out _ _ ⟨d0, d1, d2⟩ (fun hHeld => ?_)
   clear hK K d0 d1 d2 BX_
   have BX_ := BY
   clear BY
   (try simp only [Act.put, zq1, zq2, zq3, zq4, zq5, zq6])
   refine wpAnyH_ready (rs := [2]) (by kernel_rfl) (by simp) ?_
   refine AllReadyH.cons (o := _) rfl (fun K hK => ?_) AllReadyH.nil
   go_simp
   go_at_call 24
   refine (crc_Put.calls sum v1 _ HV1.out).mono ?_
   rintro e w_17 ⟨rfl, hb_⟩
   have BY := box57 BX_ hb_
   have CX2 := Lib.hid (Kd.C_below CX.out hb_)
   clear CX
   have CX := CX2
   clear CX2
   obtain ⟨d0, d1, d2, _, _⟩ := cells57 BY
   refine hK.out _ _ ⟨d0, d1, d2⟩ (fun hHeld => ?_)
   clear hK K d0 d1 d2 BX_
   have BX_ := BY
   clear BY
   (try simp only [Act.put, zq1, zq2, zq3, zq4, zq5, zq6])
   refine wpAnyH_ready (rs := [6]) (by kernel_rfl) (by simp) ?_
   refine AllReadyH.cons (o := _) rfl (fun K hK => ?_) AllReadyH.nil
   go_simp
   go_at_call 24
   refine (crc_Put.calls len v2 _ HV2.out).mono ?_
   rintro e w_18 ⟨rfl, hb_⟩
   have BY := box57 BX_ hb_
   have CX2 := Lib.hid (Kd.C_below CX.out hb_)
   clear CX
   have CX := CX2
   clear CX2
   obtain ⟨d0, d1, d2, _, _⟩ := cells57 BY
   refine hK.out _ _ ⟨d0, d1, d2⟩ (fun hHeld => ?_)
   clear hK K d0 d1 d2 BX_
   have BX_ := BY
   clear BY
   (try simp only [Act.put, zq1, zq2, zq3, zq4, zq5, zq6])
   refine tkz 7 rfl ?_ (.inl ⟨by rfl, ?_⟩) ?_
   rotate_left 1
   ·intro w hSw
    obtain ⟨s0, s1, s2⟩ := hSw
    go_simp
    (try with_reducible rfl)
   (try simp only [Act.put, zq1, zq2, zq3, zq4, zq5, zq6])
   refine tkz 13 rfl ?_ (.inl ⟨by rfl, ?_⟩) ?_
   rotate_left 1
   ·intro w hSw
    obtain ⟨s0, s1, s2⟩ := hSw
    go_simp
    (try with_reducible rfl)
   (try simp only [Act.put, zq1, zq2, zq3, zq4, zq5, zq6])
   refine tkz 14 rfl ?_ (.inl ⟨by rfl, ?_⟩) ?_
   rotate_left 1
   ·intro w hSw
    obtain ⟨s0, s1, s2⟩ := hSw
    go_simp
    (try with_reducible rfl)
   (try simp only [Act.put, zq1, zq2, zq3, zq4, zq5, zq6])
   refine wpAnyH_done (by kernel_rfl) ?_ _
   skip
   obtain ⟨y, hy⟩ : ∃ y : List S52, y = [(⟨1, v1 ++ v2 ++ v3⟩ : S52), (⟨2, file⟩ : S52)] := ⟨_, rfl⟩
   have HRES2 : Hid (frame_Put.f (⟨#[68, 73, 79, 80]⟩ : ByteArray) 2 y = some (rb, re)) := by rw [hy, ← HFI.out]; exact HRES
   have Ny := Lib.hid hy
   clear hy
   go_wp2_with (first | ((with_reducible refine gate_dst (N := 89) rfl ?_); refine Kd.R_lit k52 _ 52 ?hg (N := 89) ?hd (xs := ([(⟨1, v1 ++ v2 ++ v3⟩ : S52), (⟨2, file⟩ : S52)] : List S52)) (inner := [.int .i64 1, .string (v1 ++ v2 ++ v3), .int .i64 2, .string file]) (ok := fun _ => True) (okp := fun _ => True) ?hr ?hp (fun _ hk => hk) trivial (Below.refl _ _) (Nat.le_refl _) (by simp) ?_; (case hd => rfl); (case hg => rfl); (case hr => first | (go_simp; done) | (go_simp; rfl)); (case hp => exact (Reps.c2 (show Kd.M k52 _ _ _ (⟨1, v1 ++ v2 ++ v3⟩ : S52) [.int .i64 1, .string (v1 ++ v2 ++ v3)] from (k52_mkM _ _ _ (⟨1, v1 ++ v2 ++ v3⟩ : S52))) (Reps.c2 (show Kd.M k52 _ _ _ (⟨2, file⟩ : S52) [.int .i64 2, .string file] from (k52_mkM _ _ _ (⟨2, file⟩ : S52))) (Reps.none _ _)))); intro v231 w36 ho37 hb36 hg_ hnew_; clear hg_ hnew_; rw [← Ny.out] at ho37; have HB36 := Lib.hid (below_step BX_.out.2 hb36); obtain ⟨Ao, co, eo⟩ := Kd.R_slice ho37; subst eo; have HRo := Lib.hid ho37; clear ho37 hb36) | (go_at_call 30; (with_reducible refine (frame_Put.calls (⟨#[68, 73, 79, 80]⟩ : ByteArray) 2 _ _ y rb re _ ?side1 ?side2 HRES2.out).mono ?_); (case side1 => exact (Kd.R_reads' HRo.out).2.2); (case side2 => exact (Kd.R_reads' HRo.out).2.1); rintro e w39 ⟨rfl, hb39⟩))
   go_ret2
   exact ⟨rfl, below_step HB36.out hb39⟩
set_option maxHeartbeats 8000000 in
set_option maxRecDepth 100000 in
def patch_Put.f (sum len way : Int) (ops : List (S107)) (file : ByteArray) : Option (ByteArray × Int) :=
 if way = 3 then some (⟨#[]⟩, 1) else if way = 0 ∧ ops.length = 0 ∧ file.toList.isEmpty = true ∧ 0 ≤ len ∧ len ≤ 4294967295 then tailP sum len way file else none
theorem patch_Put.calls (sum len way : Int) (A3 : Option Addr) (c3 : Nat) (ops : List (S107)) (file : ByteArray) (r1 : ByteArray) (r2 : Int) (w : World) (hr3 : Kd.C k107 w A3 ops.length ops) (hc3 : ops.length ≤ c3) (h : patch_Put.f sum len way ops file = some (r1, r2)) :
  Calls Try.prog 37 #[.agg #[.int .u32 sum, .int .i64 len, .int .i64 way, .slice A3 ops.length c3, .string file]] w fun e w' => e = .returned (.tuple #[.string r1, .int .i64 r2]) ∧ Below w.heap.size w w' := by
 unfold patch_Put.f at h
 by_cases h3 : way = 3
 ·rw [if_pos h3] at h; cases h; exact put_way3 sum len way A3 c3 ops file w (by omega)
 rw [if_neg h3] at h
 by_cases hc : way = 0 ∧ ops.length = 0 ∧ file.toList.isEmpty = true ∧ 0 ≤ len ∧ len ≤ 4294967295
 ·rw [if_pos hc] at h
  obtain ⟨hw, ho, hf, hl⟩ := hc
  obtain rfl : ops = [] := List.eq_nil_of_length_eq_zero ho
  exact put_file0 sum len way A3 c3 file w (by omega) hl (by omega) hf _ _ h
 ·rw [if_neg hc] at h; cases h
end Go.Proofs.Ytdjpelcdijpihaa.PrintF
