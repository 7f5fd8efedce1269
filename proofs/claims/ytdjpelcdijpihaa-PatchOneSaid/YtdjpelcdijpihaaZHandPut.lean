/- A part of the proof of the claim: what it uses of the text HandPut. -/
import Derived.Test.YtdjpelcdijpihaaShort
import Derived.Test.YtdjpelcdijpihaaZHandOp
import Derived.Test.YtdjpelcdijpihaaZCrcBytes
namespace Go.Proofs.Ytdjpelcdijpihaa.PrintF
open Go.RowKit Go.Proofs.Ytdjpelcdijpihaa.Print Go.Proofs.YtdjpelcdijpihaaW.PrintWords Go.Proofs.YtdjpelcdijpihaaW.PrintLast Go.Lib
set_option linter.unusedVariables false
set_option linter.unusedSimpArgs false
theorem numB_pos (n : Int) : 1 ≤ (numB n).length := by
 unfold numB u8s vb vbN
 split <;> simp
def firstP (sum len way : Int) : ByteArray := (strOfNums (Pure.le4 sum) ++ strOfNums (Pure.le4 len)) ++ strOfNums [way]
def tailP (sum len way : Int) (p : ByteArray) : Option (ByteArray × Int) := frame_Put.f ⟨#[68, 73, 79, 80]⟩ 2 [⟨1, firstP sum len way⟩, ⟨2, p⟩]
def opsB (l : List S107) : List UInt8 := numB l.length ++ l.flatMap opB
def opsNo (l : List S107) : Bool := noB l.length || l.any opNo
theorem one_C {w : World} {g : Nat} {x : Int} (h : w.heap[g]? = some (.cells #[.int .u8 x] 5 (0, 0))) : (Kd.int .u8).C w (some ⟨g, 0, none⟩) 1 [x] :=
 ⟨rfl, by decide, fun _ => ⟨⟨g, 0, none⟩, rfl, fun j p hj => ⟨[.int .u8 p], rfl, rfl, fun i u hu => by
  match j, hj with
  | 0, hj =>
   obtain rfl := Option.some.inj hj
   match i, hu with
   | 0, hu =>
    obtain rfl := Option.some.inj hu
    exact (blk_cell h 0).trans rfl
   | i + 1, hu => simp at hu
  | j + 1, hj => simp at hj⟩⟩⟩
theorem keep_freeze {B b g n : Nat} {w w2 : World} {cur : Array Value} (h : KeepB B b w w2) (hB : B ≤ g) (hg : w2.heap[g]? = some (.cells cur 5 (0, 0))) : KeepB B b w (w2.freeze ⟨g, 0, none⟩ n) := by
 refine h.trans ?_
 unfold World.freeze
 split
 ·exact KeepB.refl _ _ _
 ·refine ⟨rfl, rfl, rfl, by simp, fun k hk hb hc => ?_⟩
  simp only [Array.getElem?_modify]
  rw [if_neg]
  rintro rfl
  rcases hc with hc | hc
  ·omega
  ·exact hc _ _ hg
set_option maxHeartbeats 4000000 in
set_option maxRecDepth 100000 in
theorem string_keep {T : TypeId} {rest : List Value} {B b : Nat} {bs : List UInt8} {w : World} (h : IsB T rest B b bs w) (h0 : bs ≠ []) :
  Calls Try.prog 47 #[.pointer (some ⟨b, 0, none⟩)] w fun e w' => e = .returned (.string ⟨bs.toArray⟩) ∧ KeepB B b w w' := by
 obtain ⟨p, v, hp, h⟩ := h
 have hl0 : bs.length ≠ 0 := by simpa using h0
 have hown := h.2.2
 obtain ⟨g, cap, cur, rfl, hbg, hg, hnc, hcm, hcs, htake⟩ : ∃ g cap cur, v = .slice (some ⟨g, 0, none⟩) bs.length cap ∧ B ≤ g ∧ w.heap[g]? = some (.cells cur 5 (0, 0)) ∧ bs.length ≤ cap ∧ cap ≤ maxLen ∧ cur.size = cap * 1 ∧ cur.toList.take (bs.length * 1) = Lib.byteCells bs := by
  rcases hown.2 with ⟨_, hz⟩ | ⟨g, cap, cur, hv, r⟩
  ·exact absurd hz hl0
  ·exact ⟨g, cap, cur, hv, r⟩
 have c1 : w.drew.cell? ⟨b, 1, none⟩ = some (.slice (some ⟨g, 0, none⟩) bs.length cap) := by
  have := h.cell 1
  simpa using this
 have hSD : (Builtin.unsafeSliceData_ #[72] 120 #[.slice (some ⟨g, 0, none⟩) bs.length cap]).run Try.prog w.drew = .ok (.pointer (some ⟨g, 0, none⟩)) w.drew :=
  Lib.run_unsafeSliceData_row _ _ _ _ _ _ (by omega)
 have hUS : (Builtin.unsafeString_ #[120, 3] 9 #[.pointer (some ⟨g, 0, none⟩), .int .i64 bs.length]).run Try.prog w.drew = .ok (.string ⟨bs.toArray⟩) (w.drew.freeze ⟨g, 0, none⟩ bs.length) := by
  refine Lib.run_unsafeString_row w.drew 120 3 9 5 Try.underlying120 (by kernel_rfl) g cur.size (by have hg' : w.drew.heap[g]? = some (.cells cur 5 (0, 0)) := hg; simp [World.shape?, hg']) bs h0 (by omega) (by unfold maxLen at hcm; omega) ?_
  intro j x hx
  have := hown.cells (g := g) rfl j (.int .u8 x.toNat) (by simp [Lib.byteCells, hx])
  exact this
 have HG := Lib.hid hg
 clear h hp hown hg hcs htake
 go_enter Try.func47, Try.ntmps47
 go_wp2
 go_region
 all_goals (go_wp2; go_ret; exact ⟨rfl, keep_freeze (KeepB.refl B b w).drew hbg HG.out⟩)
theorem box57 {w0 W W' : World} {g : Nat} {cs : Array Value} (h : Hid (W.heap[g]? = some (.cells cs 57 (0, 0)) ∧ Below w0.heap.size w0 W)) (k : Below W.heap.size W W') : Hid (W'.heap[g]? = some (.cells cs 57 (0, 0)) ∧ Below w0.heap.size w0 W') :=
 ⟨blk_below h.out.1 k, below_step h.out.2 k⟩
theorem cells57 {w0 W : World} {g : Nat} {a b c d e : Value} (h : Hid (W.heap[g]? = some (.cells #[a, b, c, d, e] 57 (0, 0)) ∧ Below w0.heap.size w0 W)) :
  W.cell? ⟨g, 0, none⟩ = some a ∧ W.cell? ⟨g, 1, none⟩ = some b ∧ W.cell? ⟨g, 2, none⟩ = some c ∧ W.cell? ⟨g, 3, none⟩ = some d ∧ W.cell? ⟨g, 4, none⟩ = some e :=
 ⟨(blk_cell h.out.1 0).trans rfl, (blk_cell h.out.1 1).trans rfl, (blk_cell h.out.1 2).trans rfl, (blk_cell h.out.1 3).trans rfl, (blk_cell h.out.1 4).trans rfl⟩
set_option maxHeartbeats 8000000 in
set_option maxRecDepth 100000 in
theorem put_way0 (sum len way : Int) (A3 : Option Addr) (c3 : Nat) (ops : List S107) (file : ByteArray) (w0 : World) (h : way < 0) :
  Calls Try.prog 37 #[.agg #[.int .u32 sum, .int .i64 len, .int .i64 way, .slice A3 ops.length c3, .string file]] w0 fun e w' => e = .returned (.tuple #[.string ⟨#[]⟩, .int .i64 1]) ∧ Below w0.heap.size w0 w' := by
 have t1 : decide (way < 0) = true := decide_eq_true (h)
 clear h
 go_enter Try.func37, Try.ntmps37
 go_wp2_with fail
 go_ret2
 exact ⟨rfl, (Below.refl _ _).alloc (Nat.le_refl _) _⟩
set_option maxHeartbeats 8000000 in
set_option maxRecDepth 100000 in
theorem put_way3 (sum len way : Int) (A3 : Option Addr) (c3 : Nat) (ops : List S107) (file : ByteArray) (w0 : World) (h : 2 < way) :
  Calls Try.prog 37 #[.agg #[.int .u32 sum, .int .i64 len, .int .i64 way, .slice A3 ops.length c3, .string file]] w0 fun e w' => e = .returned (.tuple #[.string ⟨#[]⟩, .int .i64 1]) ∧ Below w0.heap.size w0 w' := by
 have t1 : decide (way < 0) = false := decide_eq_false (by omega)
 have t2 : decide (2 < way) = true := decide_eq_true (h)
 clear h
 go_enter Try.func37, Try.ntmps37
 go_wp2_with fail
 go_ret2
 exact ⟨rfl, (Below.refl _ _).alloc (Nat.le_refl _) _⟩
set_option maxHeartbeats 8000000 in
set_option maxRecDepth 100000 in
theorem put_len0 (sum len way : Int) (A3 : Option Addr) (c3 : Nat) (ops : List S107) (file : ByteArray) (w0 : World) (hw : 0 ≤ way ∧ way ≤ 2) (h : len < 0) :
  Calls Try.prog 37 #[.agg #[.int .u32 sum, .int .i64 len, .int .i64 way, .slice A3 ops.length c3, .string file]] w0 fun e w' => e = .returned (.tuple #[.string ⟨#[]⟩, .int .i64 1]) ∧ Below w0.heap.size w0 w' := by
 have t1 : decide (way < 0) = false := decide_eq_false (by omega)
 have t2 : decide (2 < way) = false := decide_eq_false (by omega)
 have t3 : decide (len < 0) = true := decide_eq_true (h)
 clear h hw
 go_enter Try.func37, Try.ntmps37
 go_wp2_with fail
 go_ret2
 exact ⟨rfl, (Below.refl _ _).alloc (Nat.le_refl _) _⟩
set_option maxHeartbeats 8000000 in
set_option maxRecDepth 100000 in
theorem put_lenm (sum len way : Int) (A3 : Option Addr) (c3 : Nat) (ops : List S107) (file : ByteArray) (w0 : World) (hw : 0 ≤ way ∧ way ≤ 2) (h : 4294967295 < len) :
  Calls Try.prog 37 #[.agg #[.int .u32 sum, .int .i64 len, .int .i64 way, .slice A3 ops.length c3, .string file]] w0 fun e w' => e = .returned (.tuple #[.string ⟨#[]⟩, .int .i64 1]) ∧ Below w0.heap.size w0 w' := by
 have t1 : decide (way < 0) = false := decide_eq_false (by omega)
 have t2 : decide (2 < way) = false := decide_eq_false (by omega)
 have t3 : decide (len < 0) = false := decide_eq_false (by omega)
 have t4 : decide (4294967295 < len) = true := decide_eq_true (h)
 clear h hw
 go_enter Try.func37, Try.ntmps37
 go_wp2_with fail
 go_ret2
 exact ⟨rfl, (Below.refl _ _).alloc (Nat.le_refl _) _⟩
set_option maxHeartbeats 8000000 in
set_option maxRecDepth 100000 in
theorem put_opsm (sum len way : Int) (A3 : Option Addr) (c3 : Nat) (ops : List S107) (file : ByteArray) (w0 : World) (hw : 0 ≤ way ∧ way ≤ 2) (hl : 0 ≤ len ∧ len ≤ 4294967295) (ho : 0 < ops.length) (h : way ≠ 1) :
  Calls Try.prog 37 #[.agg #[.int .u32 sum, .int .i64 len, .int .i64 way, .slice A3 ops.length c3, .string file]] w0 fun e w' => e = .returned (.tuple #[.string ⟨#[]⟩, .int .i64 1]) ∧ Below w0.heap.size w0 w' := by
 have t1 : decide (way < 0) = false := decide_eq_false (by omega)
 have t2 : decide (2 < way) = false := decide_eq_false (by omega)
 have t3 : decide (len < 0) = false := decide_eq_false (by omega)
 have t4 : decide (4294967295 < len) = false := decide_eq_false (by omega)
 have t5 : decide (0 < ops.length) = true := decide_eq_true (ho)
 have t6 : (way != 1) = true := bne_iff_ne.mpr h
 clear h hw hl ho
 go_enter Try.func37, Try.ntmps37
 go_wp2_with fail
 go_ret2
 exact ⟨rfl, (Below.refl _ _).alloc (Nat.le_refl _) _⟩
set_option maxHeartbeats 8000000 in
set_option maxRecDepth 100000 in
theorem put_filem (sum len way : Int) (A3 : Option Addr) (c3 : Nat) (file : ByteArray) (w0 : World) (hw : 0 ≤ way ∧ way ≤ 2) (hl : 0 ≤ len ∧ len ≤ 4294967295) (hf : file.toList.isEmpty = false) (h : way ≠ 2) :
  Calls Try.prog 37 #[.agg #[.int .u32 sum, .int .i64 len, .int .i64 way, .slice A3 0 c3, .string file]] w0 fun e w' => e = .returned (.tuple #[.string ⟨#[]⟩, .int .i64 1]) ∧ Below w0.heap.size w0 w' := by
 have t1 : decide (way < 0) = false := decide_eq_false (by omega)
 have t2 : decide (2 < way) = false := decide_eq_false (by omega)
 have t3 : decide (len < 0) = false := decide_eq_false (by omega)
 have t4 : decide (4294967295 < len) = false := decide_eq_false (by omega)
 have t7 : (way != 2) = true := bne_iff_ne.mpr h
 clear h hw hl
 go_enter Try.func37, Try.ntmps37
 go_wp2_with fail
 go_ret2
 exact ⟨rfl, (Below.refl _ _).alloc (Nat.le_refl _) _⟩
set_option maxHeartbeats 8000000 in
set_option maxRecDepth 100000 in
theorem put_filem1 (sum len way : Int) (A3 : Option Addr) (c3 : Nat) (ops : List S107) (file : ByteArray) (w0 : World) (hw : 0 ≤ way ∧ way ≤ 2) (hl : 0 ≤ len ∧ len ≤ 4294967295) (ho : 0 < ops.length) (h1 : way = 1) (hf : file.toList.isEmpty = false) :
  Calls Try.prog 37 #[.agg #[.int .u32 sum, .int .i64 len, .int .i64 way, .slice A3 ops.length c3, .string file]] w0 fun e w' => e = .returned (.tuple #[.string ⟨#[]⟩, .int .i64 1]) ∧ Below w0.heap.size w0 w' := by
 have t1 : decide (way < 0) = false := decide_eq_false (by omega)
 have t2 : decide (2 < way) = false := decide_eq_false (by omega)
 have t3 : decide (len < 0) = false := decide_eq_false (by omega)
 have t4 : decide (4294967295 < len) = false := decide_eq_false (by omega)
 have t5 : decide (0 < ops.length) = true := decide_eq_true (ho)
 have t6 : (way != 1) = false := bne_eq_false_iff_eq.mpr h1
 have t7 : (way != 2) = true := bne_iff_ne.mpr (by omega)
 clear h1 hw hl ho
 go_enter Try.func37, Try.ntmps37
 go_wp2_with fail
 go_ret2
 exact ⟨rfl, (Below.refl _ _).alloc (Nat.le_refl _) _⟩
set_option maxHeartbeats 8000000 in
set_option maxRecDepth 100000 in
theorem put_file0 (sum len way : Int) (A3 : Option Addr) (c3 : Nat) (file : ByteArray) (w0 : World) (hw : 0 ≤ way ∧ way ≤ 2) (hl : 0 ≤ len ∧ len ≤ 4294967295) (h1 : way ≠ 1) (hf : file.toList.isEmpty = true) (rb : ByteArray) (re : Int) (hres : tailP sum len way file = some (rb, re)) :
  Calls Try.prog 37 #[.agg #[.int .u32 sum, .int .i64 len, .int .i64 way, .slice A3 0 c3, .string file]] w0 fun e w' => e = .returned (.tuple #[.string rb, .int .i64 re]) ∧ Below w0.heap.size w0 w' := by
 have t1 : decide (way < 0) = false := decide_eq_false (by omega)
 have t2 : decide (2 < way) = false := decide_eq_false (by omega)
 have t3 : decide (len < 0) = false := decide_eq_false (by omega)
 have t4 : decide (4294967295 < len) = false := decide_eq_false (by omega)
 have t8 : (way == 1) = false := beq_eq_false_iff_ne.mpr h1
 have HRES := Lib.hid hres
 have LB := Lib.hid hl
 have WB := Lib.hid hw
 clear hres h1
 have BX_ : Hid ((w0.alloc (.cells #[.int .u32 sum, .int .i64 len, .int .i64 way, .slice A3 0 c3, .string file] 57)).heap[w0.heap.size]? = some (.cells #[.int .u32 sum, .int .i64 len, .int .i64 way, .slice A3 0 c3, .string file] 57 (0, 0)) ∧ Below w0.heap.size w0 (w0.alloc (.cells #[.int .u32 sum, .int .i64 len, .int .i64 way, .slice A3 0 c3, .string file] 57))) := Lib.hid ⟨heap_alloc_new w0 _, (Below.refl _ _).alloc (Nat.le_refl _) _⟩
 have hY := cells57 BX_
 obtain ⟨c0, c1, c2, c3', c4⟩ := hY
 skip
 go_enter Try.func37, Try.ntmps37
 go_wp2_with fail
 generalize w0.alloc (.cells #[.int .u32 sum, .int .i64 len, .int .i64 way, .slice A3 0 c3, .string file] 57) = W at BX_ ⊢
 obtain ⟨g, hgX⟩ : ∃ g, g = w0.heap.size := ⟨_, rfl⟩
 rw [← hgX]
 have BX2 : Hid (W.heap[g]? = some (.cells #[.int .u32 sum, .int .i64 len, .int .i64 way, .slice A3 0 c3, .string file] 57 (0, 0)) ∧ Below w0.heap.size w0 W) := by rw [hgX]; exact BX_
 clear BX_
 have BX_ := BX2
 clear BX2 hgX
 clear c0 c1 c2 c3' c4
 obtain ⟨v1, hv1⟩ : ∃ v, v = strOfNums (Pure.le4 sum) := ⟨_, rfl⟩
 obtain ⟨v2, hv2⟩ : ∃ v, v = strOfNums (Pure.le4 len) := ⟨_, rfl⟩
 obtain ⟨v3, hv3⟩ : ∃ v, v = strOfNums [way] := ⟨_, rfl⟩
 have hs1 : v1.size = 4 := by rw [hv1, strOfNums_size]; rfl
 have hs2 : v2.size = 4 := by rw [hv2, strOfNums_size]; rfl
 have hs3 : v3.size = 1 := by rw [hv3, strOfNums_size]; rfl
 have x1 : (9223372036854775807 < v1.size + v2.size) = False := eq_false (by omega)
 have x2 : (9223372036854775807 < v1.size + v2.size + v3.size) = False := eq_false (by omega)
 have HV1 : Hid (crc_Put.f sum = some v1) := Lib.hid (by rw [hv1]; rfl)
 have HV2 : Hid (crc_Put.f len = some v2) := Lib.hid (by rw [hv2]; rfl)
 have HFI : Hid (firstP sum len way = v1 ++ v2 ++ v3) := Lib.hid (by rw [hv1, hv2, hv3]; rfl)
 have HV3 := Lib.hid hv3
 clear hv1 hv2 hv3 hs1 hs2 hs3
 have hw3 : IntKind.u32.wrap len = len := by rw [IntKind.wrap_u32]; omega
 have hw5 : IntKind.u8.wrap way = way := by rw [IntKind.wrap_u8]; omega
 have hu5 := Try.underlying5
 have hu72 := Try.underlying72
 have hu9 := Try.underlying9
 have BD := Lib.hid (show _ ∧ _ from (⟨blk_drew BX_.out.1, below_drew1 BX_.out.2⟩ : _ ∧ Below w0.heap.size w0 _))
 obtain ⟨d0, d1, d2, _, _⟩ := cells57 BD
 refine wp_region_held_drew (S := fun w' => w'.cell? ⟨g, 0, none⟩ = some (.int .u32 sum) ∧ w'.cell? ⟨g, 1, none⟩ = some (.int .i64 len) ∧ w'.cell? ⟨g, 2, none⟩ = some (.int .i64 way)) (by kernel_rfl) ⟨d0, d1, d2⟩ (fun hHeld => ?_)
 clear d0 d1 d2 BX_
 have BX_ := BD
 clear BD
 generalize W.drew = W1 at BX_ hHeld ⊢
 refine tkz 0 rfl ?_ (.inl ⟨by rfl, ?_⟩) ?_
 rotate_left 1
 ·intro w hSw
  obtain ⟨s0, s1, s2⟩ := hSw
  go_simp
  (try with_reducible rfl)
 (try simp only [Act.put, zq1, zq2, zq3, zq4, zq5, zq6])
 refine tkz 1 rfl ?_ (.inl ⟨by rfl, ?_⟩) ?_
 rotate_left 1
 ·intro w hSw
  obtain ⟨s0, s1, s2⟩ := hSw
  go_simp
  (try with_reducible rfl)
 (try simp only [Act.put, zq1, zq2, zq3, zq4, zq5, zq6])
 refine tkz 3 rfl ?_ (.inl ⟨by rfl, ?_⟩) ?_
 rotate_left 1
 ·intro w hSw
  obtain ⟨s0, s1, s2⟩ := hSw
  go_simp
  (try with_reducible rfl)
 (try simp only [Act.put, zq1, zq2, zq3, zq4, zq5, zq6])
 refine tkz 4 rfl ?_ (.inl ⟨by rfl, ?_⟩) ?_
 rotate_left 1
 ·intro w hSw
  obtain ⟨s0, s1, s2⟩ := hSw
  go_simp
  (try with_reducible rfl)
 (try simp only [Act.put, zq1, zq2, zq3, zq4, zq5, zq6])
 refine tkz 5 rfl ?_ (.inl ⟨by rfl, ?_⟩) ?_
 rotate_left 1
 ·intro w hSw
  obtain ⟨s0, s1, s2⟩ := hSw
  go_simp
  (try with_reducible rfl)
 (try simp only [Act.put, zq1, zq2, zq3, zq4, zq5, zq6])
 refine tkz 8 rfl ?_ (.inl ⟨by rfl, ?_⟩) ?_
 rotate_left 1
 ·intro w hSw
  obtain ⟨s0, s1, s2⟩ := hSw
  go_simp
  (try with_reducible rfl)
 (try simp only [Act.put, zq1, zq2, zq3, zq4, zq5, zq6])
 refine tkz 9 rfl ?_ (.inl ⟨by rfl, ?_⟩) ?_
 rotate_left 1
 ·intro w hSw
  obtain ⟨s0, s1, s2⟩ := hSw
  go_simp
  (try with_reducible rfl)
 (try simp only [Act.put, zq1, zq2, zq3, zq4, zq5, zq6])
 refine tkz 10 rfl ?_ (.inl ⟨by rfl, ?_⟩) ?_
 rotate_left 1
 ·intro w hSw
  obtain ⟨s0, s1, s2⟩ := hSw
  go_simp
  (try with_reducible rfl)
 (try simp only [Act.put, zq1, zq2, zq3, zq4, zq5, zq6])
 refine wpAnyH_ready (rs := [2, 11]) (by kernel_rfl) (by simp) ?_
 refine AllReadyH.cons (o := _) rfl (fun K hK => ?_) (AllReadyH.cons (o := _) rfl (fun K hK => ?_) AllReadyH.nil)
 ·skip
  go_simp
  go_at_call 24
  refine (crc_Put.calls sum v1 _ HV1.out).mono ?_
  rintro e w_1 ⟨rfl, hb_⟩
  have BY := box57 BX_ hb_
  obtain ⟨d0, d1, d2, _, _⟩ := cells57 BY
  refine hK.out _ _ ⟨d0, d1, d2⟩ (fun hHeld => ?_)
  clear hK K d0 d1 d2 BX_
  have BX_ := BY
  clear BY
  (try simp only [Act.put, zq1, zq2, zq3, zq4, zq5, zq6])
  refine wpAnyH_ready (rs := [6, 11]) (by kernel_rfl) (by simp) ?_
  refine AllReadyH.cons (o := _) rfl (fun K hK => ?_) (AllReadyH.cons (o := _) rfl (fun K hK => ?_) AllReadyH.nil)
  ·skip
   go_simp
   go_at_call 24
   refine (crc_Put.calls len v2 _ HV2.out).mono ?_
   rintro e w_2 ⟨rfl, hb_⟩
   have BY := box57 BX_ hb_
   obtain ⟨d0, d1, d2, _, _⟩ := cells57 BY
   refine hK.out _ _ ⟨d0, d1, d2⟩ (fun hHeld => ?_)
   clear hK K d0 d1 d2 BX_
   have BX_ := BY
   clear BY
   (try simp only [Act.put, zq1, zq2, zq3, zq4, zq5, zq6])
   refine tkz 7 rfl ?_ (.inl ⟨by rfl, ?_⟩) ?_
   rotate_left 1
   ·intro w hSw
    obtain ⟨s0, s1, s2⟩ := hSw
    go_simp
    (try with_reducible rfl)
   (try simp only [Act.put, zq1, zq2, zq3, zq4, zq5, zq6])
   refine wpAnyH_ready (rs := [11]) (by kernel_rfl) (by simp) ?_
   refine AllReadyH.cons (o := _) rfl (fun K hK => ?_) AllReadyH.nil
   go_simp
   have BY := box57 BX_ (below_alloc (Below.refl _ w_2) (.cells #[.int .u8 way] 5))
   have CX := Lib.hid (one_C (heap_alloc_new w_2 (.cells #[.int .u8 way] 5)))
   generalize w_2.alloc (.cells #[.int .u8 way] 5) = w_3 at BY CX ⊢
   obtain ⟨d0, d1, d2, _, _⟩ := cells57 BY
   refine hK.out _ _ ⟨d0, d1, d2⟩ (fun hHeld => ?_)
   clear hK K d0 d1 d2 BX_
   have BX_ := BY
   clear BY
   (try simp only [Act.put, zq1, zq2, zq3, zq4, zq5, zq6])
   refine wpAnyH_ready (rs := [12]) (by kernel_rfl) (by simp) ?_
   refine AllReadyH.cons (o := _) rfl (fun K hK => ?_) AllReadyH.nil
   have cv := Kd.C_string (P := Try.prog) (src := 72) (dst := 9) (e := 5) (c := 1) Try.underlying72 Try.underlying5 Try.underlying9 CX.out
   rw [← HV3.out] at cv
   go_simp
   have BY := BX_
   clear cv
   obtain ⟨d0, d1, d2, _, _⟩ := cells57 BY
   refine hK.out _ _ ⟨d0, d1, d2⟩ (fun hHeld => ?_)
   clear hK K d0 d1 d2 BX_
   have BX_ := BY
   clear BY
   (try simp only [Act.put, zq1, zq2, zq3, zq4, zq5, zq6])
   refine tkz 13 rfl ?_ (.inl ⟨by rfl, ?_⟩) ?_
   rotate_left 1
   ·intro w hSw
    obtain ⟨s0, s1, s2⟩ := hSw
    go_simp
    (try with_reducible rfl)
   (try simp only [Act.put, zq1, zq2, zq3, zq4, zq5, zq6])
   refine tkz 14 rfl ?_ (.inl ⟨by rfl, ?_⟩) ?_
   rotate_left 1
   ·intro w hSw
    obtain ⟨s0, s1, s2⟩ := hSw
    go_simp
    (try with_reducible rfl)
   (try simp only [Act.put, zq1, zq2, zq3, zq4, zq5, zq6])
   refine wpAnyH_done (by kernel_rfl) ?_ _
   skip
   obtain ⟨y, hy⟩ : ∃ y : List S52, y = [(⟨1, v1 ++ v2 ++ v3⟩ : S52), (⟨2, file⟩ : S52)] := ⟨_, rfl⟩
   have HRES2 : Hid (frame_Put.f (⟨#[68, 73, 79, 80]⟩ : ByteArray) 2 y = some (rb, re)) := by rw [hy, ← HFI.out]; exact HRES
   have Ny := Lib.hid hy
   clear hy
   go_wp2_with (first | ((with_reducible refine gate_dst (N := 89) rfl ?_); refine Kd.R_lit k52 _ 52 ?hg (N := 89) ?hd (xs := ([(⟨1, v1 ++ v2 ++ v3⟩ : S52), (⟨2, file⟩ : S52)] : List S52)) (inner := [.int .i64 1, .string (v1 ++ v2 ++ v3), .int .i64 2, .string file]) (ok := fun _ => True) (okp := fun _ => True) ?hr ?hp (fun _ hk => hk) trivial (Below.refl _ _) (Nat.le_refl _) (by simp) ?_; (case hd => rfl); (case hg => rfl); (case hr => first | (go_simp; done) | (go_simp; rfl)); (case hp => exact (Reps.c2 (show Kd.M k52 _ _ _ (⟨1, v1 ++ v2 ++ v3⟩ : S52) [.int .i64 1, .string (v1 ++ v2 ++ v3)] from (k52_mkM _ _ _ (⟨1, v1 ++ v2 ++ v3⟩ : S52))) (Reps.c2 (show Kd.M k52 _ _ _ (⟨2, file⟩ : S52) [.int .i64 2, .string file] from (k52_mkM _ _ _ (⟨2, file⟩ : S52))) (Reps.none _ _)))); intro v231 w36 ho37 hb36 hg_ hnew_; clear hg_ hnew_; rw [← Ny.out] at ho37; have HB36 := Lib.hid (below_step BX_.out.2 hb36); obtain ⟨Ao, co, eo⟩ := Kd.R_slice ho37; subst eo; have HRo := Lib.hid ho37; clear ho37 hb36) | (go_at_call 30; (with_reducible refine (frame_Put.calls (⟨#[68, 73, 79, 80]⟩ : ByteArray) 2 _ _ y rb re _ ?side1 ?side2 HRES2.out).mono ?_); (case side1 => exact (Kd.R_reads' HRo.out).2.2); (case side2 => exact (Kd.R_reads' HRo.out).2.1); rintro e w39 ⟨rfl, hb39⟩))
   go_ret2
   exact ⟨rfl, below_step HB36.out hb39⟩
  ·skip
   go_simp
   have BY := box57 BX_ (below_alloc (Below.refl _ w_1) (.cells #[.int .u8 way] 5))
   have CX := Lib.hid (one_C (heap_alloc_new w_1 (.cells #[.int .u8 way] 5)))
   generalize w_1.alloc (.cells #[.int .u8 way] 5) = w_5 at BY CX ⊢
   obtain ⟨d0, d1, d2, _, _⟩ := cells57 BY
   refine hK.out _ _ ⟨d0, d1, d2⟩ (fun hHeld => ?_)
   clear hK K d0 d1 d2 BX_
   have BX_ := BY
   clear BY
   (try simp only [Act.put, zq1, zq2, zq3, zq4, zq5, zq6])
   refine wpAnyH_ready (rs := [6, 12]) (by kernel_rfl) (by simp) ?_
   refine AllReadyH.cons (o := _) rfl (fun K hK => ?_) (AllReadyH.cons (o := _) rfl (fun K hK => ?_) AllReadyH.nil)
   ·skip
    go_simp
    go_at_call 24
    refine (crc_Put.calls len v2 _ HV2.out).mono ?_
    rintro e w_6 ⟨rfl, hb_⟩
    have BY := box57 BX_ hb_
    have CX2 := Lib.hid (Kd.C_below CX.out hb_)
    clear CX
    have CX := CX2
    clear CX2
    obtain ⟨d0, d1, d2, _, _⟩ := cells57 BY
    refine hK.out _ _ ⟨d0, d1, d2⟩ (fun hHeld => ?_)
    clear hK K d0 d1 d2 BX_
    have BX_ := BY
    clear BY
    (try simp only [Act.put, zq1, zq2, zq3, zq4, zq5, zq6])
    refine tkz 7 rfl ?_ (.inl ⟨by rfl, ?_⟩) ?_
    rotate_left 1
    ·intro w hSw
     obtain ⟨s0, s1, s2⟩ := hSw
     go_simp
     (try with_reducible rfl)
    (try simp only [Act.put, zq1, zq2, zq3, zq4, zq5, zq6])
    refine wpAnyH_ready (rs := [12]) (by kernel_rfl) (by simp) ?_
    refine AllReadyH.cons (o := _) rfl (fun K hK => ?_) AllReadyH.nil
    have cv := Kd.C_string (P := Try.prog) (src := 72) (dst := 9) (e := 5) (c := 1) Try.underlying72 Try.underlying5 Try.underlying9 CX.out
    rw [← HV3.out] at cv
    go_simp
    have BY := BX_
    clear cv
    obtain ⟨d0, d1, d2, _, _⟩ := cells57 BY
    refine hK.out _ _ ⟨d0, d1, d2⟩ (fun hHeld => ?_)
    clear hK K d0 d1 d2 BX_
    have BX_ := BY
    clear BY
    (try simp only [Act.put, zq1, zq2, zq3, zq4, zq5, zq6])
    refine tkz 13 rfl ?_ (.inl ⟨by rfl, ?_⟩) ?_
    rotate_left 1
    ·intro w hSw
     obtain ⟨s0, s1, s2⟩ := hSw
     go_simp
     (try with_reducible rfl)
    (try simp only [Act.put, zq1, zq2, zq3, zq4, zq5, zq6])
    refine tkz 14 rfl ?_ (.inl ⟨by rfl, ?_⟩) ?_
    rotate_left 1
    ·intro w hSw
     obtain ⟨s0, s1, s2⟩ := hSw
     go_simp
     (try with_reducible rfl)
    (try simp only [Act.put, zq1, zq2, zq3, zq4, zq5, zq6])
    refine wpAnyH_done (by kernel_rfl) ?_ _
    skip
    obtain ⟨y, hy⟩ : ∃ y : List S52, y = [(⟨1, v1 ++ v2 ++ v3⟩ : S52), (⟨2, file⟩ : S52)] := ⟨_, rfl⟩
    have HRES2 : Hid (frame_Put.f (⟨#[68, 73, 79, 80]⟩ : ByteArray) 2 y = some (rb, re)) := by rw [hy, ← HFI.out]; exact HRES
    have Ny := Lib.hid hy
    clear hy
    go_wp2_with (first | ((with_reducible refine gate_dst (N := 89) rfl ?_); refine Kd.R_lit k52 _ 52 ?hg (N := 89) ?hd (xs := ([(⟨1, v1 ++ v2 ++ v3⟩ : S52), (⟨2, file⟩ : S52)] : List S52)) (inner := [.int .i64 1, .string (v1 ++ v2 ++ v3), .int .i64 2, .string file]) (ok := fun _ => True) (okp := fun _ => True) ?hr ?hp (fun _ hk => hk) trivial (Below.refl _ _) (Nat.le_refl _) (by simp) ?_; (case hd => rfl); (case hg => rfl); (case hr => first | (go_simp; done) | (go_simp; rfl)); (case hp => exact (Reps.c2 (show Kd.M k52 _ _ _ (⟨1, v1 ++ v2 ++ v3⟩ : S52) [.int .i64 1, .string (v1 ++ v2 ++ v3)] from (k52_mkM _ _ _ (⟨1, v1 ++ v2 ++ v3⟩ : S52))) (Reps.c2 (show Kd.M k52 _ _ _ (⟨2, file⟩ : S52) [.int .i64 2, .string file] from (k52_mkM _ _ _ (⟨2, file⟩ : S52))) (Reps.none _ _)))); intro v231 w36 ho37 hb36 hg_ hnew_; clear hg_ hnew_; rw [← Ny.out] at ho37; have HB36 := Lib.hid (below_step BX_.out.2 hb36); obtain ⟨Ao, co, eo⟩ := Kd.R_slice ho37; subst eo; have HRo := Lib.hid ho37; clear ho37 hb36) | (go_at_call 30; (with_reducible refine (frame_Put.calls (⟨#[68, 73, 79, 80]⟩ : ByteArray) 2 _ _ y rb re _ ?side1 ?side2 HRES2.out).mono ?_); (case side1 => exact (Kd.R_reads' HRo.out).2.2); (case side2 => exact (Kd.R_reads' HRo.out).2.1); rintro e w39 ⟨rfl, hb39⟩))
    go_ret2
    exact ⟨rfl, below_step HB36.out hb39⟩
   ·skip
    have cv := Kd.C_string (P := Try.prog) (src := 72) (dst := 9) (e := 5) (c := 1) Try.underlying72 Try.underlying5 Try.underlying9 CX.out
    rw [← HV3.out] at cv
    go_simp
    have BY := BX_
    clear cv
    obtain ⟨d0, d1, d2, _, _⟩ := cells57 BY
    refine hK.out _ _ ⟨d0, d1, d2⟩ (fun hHeld => ?_)
    clear hK K d0 d1 d2 BX_
    have BX_ := BY
    clear BY
    (try simp only [Act.put, zq1, zq2, zq3, zq4, zq5, zq6])
    refine wpAnyH_ready (rs := [6]) (by kernel_rfl) (by simp) ?_
    refine AllReadyH.cons (o := _) rfl (fun K hK => ?_) AllReadyH.nil
    go_simp
    go_at_call 24
    refine (crc_Put.calls len v2 _ HV2.out).mono ?_
    rintro e w_9 ⟨rfl, hb_⟩
    have BY := box57 BX_ hb_
    have CX2 := Lib.hid (Kd.C_below CX.out hb_)
    clear CX
    have CX := CX2
    clear CX2
    obtain ⟨d0, d1, d2, _, _⟩ := cells57 BY
    refine hK.out _ _ ⟨d0, d1, d2⟩ (fun hHeld => ?_)
    clear hK K d0 d1 d2 BX_
    have BX_ := BY
    clear BY
    (try simp only [Act.put, zq1, zq2, zq3, zq4, zq5, zq6])
    refine tkz 7 rfl ?_ (.inl ⟨by rfl, ?_⟩) ?_
    rotate_left 1
    ·intro w hSw
     obtain ⟨s0, s1, s2⟩ := hSw
     go_simp
     (try with_reducible rfl)
    (try simp only [Act.put, zq1, zq2, zq3, zq4, zq5, zq6])
    refine tkz 13 rfl ?_ (.inl ⟨by rfl, ?_⟩) ?_
    rotate_left 1
    ·intro w hSw
     obtain ⟨s0, s1, s2⟩ := hSw
     go_simp
     (try with_reducible rfl)
    (try simp only [Act.put, zq1, zq2, zq3, zq4, zq5, zq6])
    refine tkz 14 rfl ?_ (.inl ⟨by rfl, ?_⟩) ?_
    rotate_left 1
    ·intro w hSw
     obtain ⟨s0, s1, s2⟩ := hSw
     go_simp
     (try with_reducible rfl)
    (try simp only [Act.put, zq1, zq2, zq3, zq4, zq5, zq6])
    refine wpAnyH_done (by kernel_rfl) ?_ _
    skip
    obtain ⟨y, hy⟩ : ∃ y : List S52, y = [(⟨1, v1 ++ v2 ++ v3⟩ : S52), (⟨2, file⟩ : S52)] := ⟨_, rfl⟩
    have HRES2 : Hid (frame_Put.f (⟨#[68, 73, 79, 80]⟩ : ByteArray) 2 y = some (rb, re)) := by rw [hy, ← HFI.out]; exact HRES
    have Ny := Lib.hid hy
    clear hy
    go_wp2_with (first | ((with_reducible refine gate_dst (N := 89) rfl ?_); refine Kd.R_lit k52 _ 52 ?hg (N := 89) ?hd (xs := ([(⟨1, v1 ++ v2 ++ v3⟩ : S52), (⟨2, file⟩ : S52)] : List S52)) (inner := [.int .i64 1, .string (v1 ++ v2 ++ v3), .int .i64 2, .string file]) (ok := fun _ => True) (okp := fun _ => True) ?hr ?hp (fun _ hk => hk) trivial (Below.refl _ _) (Nat.le_refl _) (by simp) ?_; (case hd => rfl); (case hg => rfl); (case hr => first | (go_simp; done) | (go_simp; rfl)); (case hp => exact (Reps.c2 (show Kd.M k52 _ _ _ (⟨1, v1 ++ v2 ++ v3⟩ : S52) [.int .i64 1, .string (v1 ++ v2 ++ v3)] from (k52_mkM _ _ _ (⟨1, v1 ++ v2 ++ v3⟩ : S52))) (Reps.c2 (show Kd.M k52 _ _ _ (⟨2, file⟩ : S52) [.int .i64 2, .string file] from (k52_mkM _ _ _ (⟨2, file⟩ : S52))) (Reps.none _ _)))); intro v231 w36 ho37 hb36 hg_ hnew_; clear hg_ hnew_; rw [← Ny.out] at ho37; have HB36 := Lib.hid (below_step BX_.out.2 hb36); obtain ⟨Ao, co, eo⟩ := Kd.R_slice ho37; subst eo; have HRo := Lib.hid ho37; clear ho37 hb36) | (go_at_call 30; (with_reducible refine (frame_Put.calls (⟨#[68, 73, 79, 80]⟩ : ByteArray) 2 _ _ y rb re _ ?side1 ?side2 HRES2.out).mono ?_); (case side1 => exact (Kd.R_reads' HRo.out).2.2); (case side2 => exact (Kd.R_reads' HRo.out).2.1); rintro e w39 ⟨rfl, hb39⟩))
    go_ret2
    exact ⟨rfl, below_step HB36.out hb39⟩
 ·skip
  go_simp
  have BY := box57 BX_ (below_alloc (Below.refl _ W1) (.cells #[.int .u8 way] 5))
  have CX := Lib.hid (one_C (heap_alloc_new W1 (.cells #[.int .u8 way] 5)))
  generalize W1.alloc (.cells #[.int .u8 way] 5) = w_10 at BY CX ⊢
  obtain ⟨d0, d1, d2, _, _⟩ := cells57 BY
  refine hK.out _ _ ⟨d0, d1, d2⟩ (fun hHeld => ?_)
  clear hK K d0 d1 d2 BX_
  have BX_ := BY
  clear BY
  (try simp only [Act.put, zq1, zq2, zq3, zq4, zq5, zq6])
  refine wpAnyH_ready (rs := [2, 12]) (by kernel_rfl) (by simp) ?_
  refine AllReadyH.cons (o := _) rfl (fun K hK => ?_) (AllReadyH.cons (o := _) rfl (fun K hK => ?_) AllReadyH.nil)
  ·skip
   go_simp
   go_at_call 24
   refine (crc_Put.calls sum v1 _ HV1.out).mono ?_
   rintro e w_11 ⟨rfl, hb_⟩
   have BY := box57 BX_ hb_
   have CX2 := Lib.hid (Kd.C_below CX.out hb_)
   clear CX
   have CX := CX2
   clear CX2
   obtain ⟨d0, d1, d2, _, _⟩ := cells57 BY
   refine hK.out _ _ ⟨d0, d1, d2⟩ (fun hHeld => ?_)
   clear hK K d0 d1 d2 BX_
   have BX_ := BY
   clear BY
   (try simp only [Act.put, zq1, zq2, zq3, zq4, zq5, zq6])
   refine wpAnyH_ready (rs := [6, 12]) (by kernel_rfl) (by simp) ?_
   refine AllReadyH.cons (o := _) rfl (fun K hK => ?_) (AllReadyH.cons (o := _) rfl (fun K hK => ?_) AllReadyH.nil)
   ·skip
    go_simp
    go_at_call 24
    refine (crc_Put.calls len v2 _ HV2.out).mono ?_
    rintro e w_12 ⟨rfl, hb_⟩
    have BY := box57 BX_ hb_
    have CX2 := Lib.hid (Kd.C_below CX.out hb_)
    clear CX
    have CX := CX2
    clear CX2
    obtain ⟨d0, d1, d2, _, _⟩ := cells57 BY
    refine hK.out _ _ ⟨d0, d1, d2⟩ (fun hHeld => ?_)
    clear hK K d0 d1 d2 BX_
    have BX_ := BY
    clear BY
    (try simp only [Act.put, zq1, zq2, zq3, zq4, zq5, zq6])
    refine tkz 7 rfl ?_ (.inl ⟨by rfl, ?_⟩) ?_
    rotate_left 1
    ·intro w hSw
     obtain ⟨s0, s1, s2⟩ := hSw
     go_simp
     (try with_reducible rfl)
    (try simp only [Act.put, zq1, zq2, zq3, zq4, zq5, zq6])
    refine wpAnyH_ready (rs := [12]) (by kernel_rfl) (by simp) ?_
    refine AllReadyH.cons (o := _) rfl (fun K hK => ?_) AllReadyH.nil
    have cv := Kd.C_string (P := Try.prog) (src := 72) (dst := 9) (e := 5) (c := 1) Try.underlying72 Try.underlying5 Try.underlying9 CX.out
    rw [← HV3.out] at cv
    go_simp
    have BY := BX_
    clear cv
    obtain ⟨d0, d1, d2, _, _⟩ := cells57 BY
    refine hK.out _ _ ⟨d0, d1, d2⟩ (fun hHeld => ?_)
    clear hK K d0 d1 d2 BX_
    have BX_ := BY
    clear BY
    (try simp only [Act.put, zq1, zq2, zq3, zq4, zq5, zq6])
    refine tkz 13 rfl ?_ (.inl ⟨by rfl, ?_⟩) ?_
    rotate_left 1
    ·intro w hSw
     obtain ⟨s0, s1, s2⟩ := hSw
     go_simp
     (try with_reducible rfl)
    (try simp only [Act.put, zq1, zq2, zq3, zq4, zq5, zq6])
    refine tkz 14 rfl ?_ (.inl ⟨by rfl, ?_⟩) ?_
    rotate_left 1
    ·intro w hSw
     obtain ⟨s0, s1, s2⟩ := hSw
     go_simp
     (try with_reducible rfl)
    (try simp only [Act.put, zq1, zq2, zq3, zq4, zq5, zq6])
    refine wpAnyH_done (by kernel_rfl) ?_ _
    skip
    obtain ⟨y, hy⟩ : ∃ y : List S52, y = [(⟨1, v1 ++ v2 ++ v3⟩ : S52), (⟨2, file⟩ : S52)] := ⟨_, rfl⟩
    have HRES2 : Hid (frame_Put.f (⟨#[68, 73, 79, 80]⟩ : ByteArray) 2 y = some (rb, re)) := by rw [hy, ← HFI.out]; exact HRES
    have Ny := Lib.hid hy
    clear hy
    go_wp2_with (first | ((with_reducible refine gate_dst (N := 89) rfl ?_); refine Kd.R_lit k52 _ 52 ?hg (N := 89) ?hd (xs := ([(⟨1, v1 ++ v2 ++ v3⟩ : S52), (⟨2, file⟩ : S52)] : List S52)) (inner := [.int .i64 1, .string (v1 ++ v2 ++ v3), .int .i64 2, .string file]) (ok := fun _ => True) (okp := fun _ => True) ?hr ?hp (fun _ hk => hk) trivial (Below.refl _ _) (Nat.le_refl _) (by simp) ?_; (case hd => rfl); (case hg => rfl); (case hr => first | (go_simp; done) | (go_simp; rfl)); (case hp => exact (Reps.c2 (show Kd.M k52 _ _ _ (⟨1, v1 ++ v2 ++ v3⟩ : S52) [.int .i64 1, .string (v1 ++ v2 ++ v3)] from (k52_mkM _ _ _ (⟨1, v1 ++ v2 ++ v3⟩ : S52))) (Reps.c2 (show Kd.M k52 _ _ _ (⟨2, file⟩ : S52) [.int .i64 2, .string file] from (k52_mkM _ _ _ (⟨2, file⟩ : S52))) (Reps.none _ _)))); intro v231 w36 ho37 hb36 hg_ hnew_; clear hg_ hnew_; rw [← Ny.out] at ho37; have HB36 := Lib.hid (below_step BX_.out.2 hb36); obtain ⟨Ao, co, eo⟩ := Kd.R_slice ho37; subst eo; have HRo := Lib.hid ho37; clear ho37 hb36) | (go_at_call 30; (with_reducible refine (frame_Put.calls (⟨#[68, 73, 79, 80]⟩ : ByteArray) 2 _ _ y rb re _ ?side1 ?side2 HRES2.out).mono ?_); (case side1 => exact (Kd.R_reads' HRo.out).2.2); (case side2 => exact (Kd.R_reads' HRo.out).2.1); rintro e w39 ⟨rfl, hb39⟩))
    go_ret2
    exact ⟨rfl, below_step HB36.out hb39⟩
   ·skip
    have cv := Kd.C_string (P := Try.prog) (src := 72) (dst := 9) (e := 5) (c := 1) Try.underlying72 Try.underlying5 Try.underlying9 CX.out
    rw [← HV3.out] at cv
    go_simp
    have BY := BX_
    clear cv
    obtain ⟨d0, d1, d2, _, _⟩ := cells57 BY
    refine hK.out _ _ ⟨d0, d1, d2⟩ (fun hHeld => ?_)
    clear hK K d0 d1 d2 BX_
    have BX_ := BY
    clear BY
    (try simp only [Act.put, zq1, zq2, zq3, zq4, zq5, zq6])
    refine wpAnyH_ready (rs := [6]) (by kernel_rfl) (by simp) ?_
    refine AllReadyH.cons (o := _) rfl (fun K hK => ?_) AllReadyH.nil
    go_simp
    go_at_call 24
    refine (crc_Put.calls len v2 _ HV2.out).mono ?_
    rintro e w_15 ⟨rfl, hb_⟩
    have BY := box57 BX_ hb_
    have CX2 := Lib.hid (Kd.C_below CX.out hb_)
    clear CX
    have CX := CX2
    clear CX2
    obtain ⟨d0, d1, d2, _, _⟩ := cells57 BY
    refine hK.out _ _ ⟨d0, d1, d2⟩ (fun hHeld => ?_)
    clear hK K d0 d1 d2 BX_
    have BX_ := BY
    clear BY
    (try simp only [Act.put, zq1, zq2, zq3, zq4, zq5, zq6])
    refine tkz 7 rfl ?_ (.inl ⟨by rfl, ?_⟩) ?_
    rotate_left 1
    ·intro w hSw
     obtain ⟨s0, s1, s2⟩ := hSw
     go_simp
     (try with_reducible rfl)
    (try simp only [Act.put, zq1, zq2, zq3, zq4, zq5, zq6])
    refine tkz 13 rfl ?_ (.inl ⟨by rfl, ?_⟩) ?_
    rotate_left 1
    ·intro w hSw
     obtain ⟨s0, s1, s2⟩ := hSw
     go_simp
     (try with_reducible rfl)
    (try simp only [Act.put, zq1, zq2, zq3, zq4, zq5, zq6])
    refine tkz 14 rfl ?_ (.inl ⟨by rfl, ?_⟩) ?_
    rotate_left 1
    ·intro w hSw
     obtain ⟨s0, s1, s2⟩ := hSw
     go_simp
     (try with_reducible rfl)
    (try simp only [Act.put, zq1, zq2, zq3, zq4, zq5, zq6])
    refine wpAnyH_done (by kernel_rfl) ?_ _
    skip
    obtain ⟨y, hy⟩ : ∃ y : List S52, y = [(⟨1, v1 ++ v2 ++ v3⟩ : S52), (⟨2, file⟩ : S52)] := ⟨_, rfl⟩
    have HRES2 : Hid (frame_Put.f (⟨#[68, 73, 79, 80]⟩ : ByteArray) 2 y = some (rb, re)) := by rw [hy, ← HFI.out]; exact HRES
    have Ny := Lib.hid hy
    clear hy
    go_wp2_with (first | ((with_reducible refine gate_dst (N := 89) rfl ?_); refine Kd.R_lit k52 _ 52 ?hg (N := 89) ?hd (xs := ([(⟨1, v1 ++ v2 ++ v3⟩ : S52), (⟨2, file⟩ : S52)] : List S52)) (inner := [.int .i64 1, .string (v1 ++ v2 ++ v3), .int .i64 2, .string file]) (ok := fun _ => True) (okp := fun _ => True) ?hr ?hp (fun _ hk => hk) trivial (Below.refl _ _) (Nat.le_refl _) (by simp) ?_; (case hd => rfl); (case hg => rfl); (case hr => first | (go_simp; done) | (go_simp; rfl)); (case hp => exact (Reps.c2 (show Kd.M k52 _ _ _ (⟨1, v1 ++ v2 ++ v3⟩ : S52) [.int .i64 1, .string (v1 ++ v2 ++ v3)] from (k52_mkM _ _ _ (⟨1, v1 ++ v2 ++ v3⟩ : S52))) (Reps.c2 (show Kd.M k52 _ _ _ (⟨2, file⟩ : S52) [.int .i64 2, .string file] from (k52_mkM _ _ _ (⟨2, file⟩ : S52))) (Reps.none _ _)))); intro v231 w36 ho37 hb36 hg_ hnew_; clear hg_ hnew_; rw [← Ny.out] at ho37; have HB36 := Lib.hid (below_step BX_.out.2 hb36); obtain ⟨Ao, co, eo⟩ := Kd.R_slice ho37; subst eo; have HRo := Lib.hid ho37; clear ho37 hb36) | (go_at_call 30; (with_reducible refine (frame_Put.calls (⟨#[68, 73, 79, 80]⟩ : ByteArray) 2 _ _ y rb re _ ?side1 ?side2 HRES2.out).mono ?_); (case side1 => exact (Kd.R_reads' HRo.out).2.2); (case side2 => exact (Kd.R_reads' HRo.out).2.1); rintro e w39 ⟨rfl, hb39⟩))
    go_ret2
    exact ⟨rfl, below_step HB36.out hb39⟩
  ·skip
   have cv := Kd.C_string (P := Try.prog) (src := 72) (dst := 9) (e := 5) (c := 1) Try.underlying72 Try.underlying5 Try.underlying9 CX.out
   rw [← HV3.out] at cv
   go_simp
   have BY := BX_
   clear cv
   obtain ⟨d0, d1, d2, _, _⟩ := cells57 BY
   refine hK.out _ _ ⟨d0, d1, d2⟩ (fun hHeld => ?_)
   clear hK K d0 d1 d2 BX_
   have BX_ := BY
   clear BY
   (try simp only [Act.put, zq1, zq2, zq3, zq4, zq5, zq6])
   refine wpAnyH_ready (rs := [2]) (by kernel_rfl) (by simp) ?_
   refine AllReadyH.cons (o := _) rfl (fun K hK => ?_) AllReadyH.nil
   go_simp
   go_at_call 24
   refine (crc_Put.calls sum v1 _ HV1.out).mono ?_
   rintro e w_17 ⟨rfl, hb_⟩
   have BY := box57 BX_ hb_
   have CX2 := Lib.hid (Kd.C_below CX.out hb_)
   clear CX
   have CX := CX2
   clear CX2
   obtain ⟨d0, d1, d2, _, _⟩ := cells57 BY
   refine hK.out _ _ ⟨d0, d1, d2⟩ (fun hHeld => ?_)
   clear hK K d0 d1 d2 BX_
   have BX_ := BY
   clear BY
   (try simp only [Act.put, zq1, zq2, zq3, zq4, zq5, zq6])
   refine wpAnyH_ready (rs := [6]) (by kernel_rfl) (by simp) ?_
   refine AllReadyH.cons (o := _) rfl (fun K hK => ?_) AllReadyH.nil
   go_simp
   go_at_call 24
   refine (crc_Put.calls len v2 _ HV2.out).mono ?_
   rintro e w_18 ⟨rfl, hb_⟩
   have BY := box57 BX_ hb_
   have CX2 := Lib.hid (Kd.C_below CX.out hb_)
   clear CX
   have CX := CX2
   clear CX2
   obtain ⟨d0, d1, d2, _, _⟩ := cells57 BY
   refine hK.out _ _ ⟨d0, d1, d2⟩ (fun hHeld => ?_)
   clear hK K d0 d1 d2 BX_
   have BX_ := BY
   clear BY
   (try simp only [Act.put, zq1, zq2, zq3, zq4, zq5, zq6])
   refine tkz 7 rfl ?_ (.inl ⟨by rfl, ?_⟩) ?_
   rotate_left 1
   ·intro w hSw
    obtain ⟨s0, s1, s2⟩ := hSw
    go_simp
    (try with_reducible rfl)
   (try simp only [Act.put, zq1, zq2, zq3, zq4, zq5, zq6])
   refine tkz 13 rfl ?_ (.inl ⟨by rfl, ?_⟩) ?_
   rotate_left 1
   ·intro w hSw
    obtain ⟨s0, s1, s2⟩ := hSw
    go_simp
    (try with_reducible rfl)
   (try simp only [Act.put, zq1, zq2, zq3, zq4, zq5, zq6])
   refine tkz 14 rfl ?_ (.inl ⟨by rfl, ?_⟩) ?_
   rotate_left 1
   ·intro w hSw
    obtain ⟨s0, s1, s2⟩ := hSw
    go_simp
    (try with_reducible rfl)
   (try simp only [Act.put, zq1, zq2, zq3, zq4, zq5, zq6])
   refine wpAnyH_done (by kernel_rfl) ?_ _
   skip
   obtain ⟨y, hy⟩ : ∃ y : List S52, y = [(⟨1, v1 ++ v2 ++ v3⟩ : S52), (⟨2, file⟩ : S52)] := ⟨_, rfl⟩
   have HRES2 : Hid (frame_Put.f (⟨#[68, 73, 79, 80]⟩ : ByteArray) 2 y = some (rb, re)) := by rw [hy, ← HFI.out]; exact HRES
   have Ny := Lib.hid hy
   clear hy
   go_wp2_with (first | ((with_reducible refine gate_dst (N := 89) rfl ?_); refine Kd.R_lit k52 _ 52 ?hg (N := 89) ?hd (xs := ([(⟨1, v1 ++ v2 ++ v3⟩ : S52), (⟨2, file⟩ : S52)] : List S52)) (inner := [.int .i64 1, .string (v1 ++ v2 ++ v3), .int .i64 2, .string file]) (ok := fun _ => True) (okp := fun _ => True) ?hr ?hp (fun _ hk => hk) trivial (Below.refl _ _) (Nat.le_refl _) (by simp) ?_; (case hd => rfl); (case hg => rfl); (case hr => first | (go_simp; done) | (go_simp; rfl)); (case hp => exact (Reps.c2 (show Kd.M k52 _ _ _ (⟨1, v1 ++ v2 ++ v3⟩ : S52) [.int .i64 1, .string (v1 ++ v2 ++ v3)] from (k52_mkM _ _ _ (⟨1, v1 ++ v2 ++ v3⟩ : S52))) (Reps.c2 (show Kd.M k52 _ _ _ (⟨2, file⟩ : S52) [.int .i64 2, .string file] from (k52_mkM _ _ _ (⟨2, file⟩ : S52))) (Reps.none _ _)))); intro v231 w36 ho37 hb36 hg_ hnew_; clear hg_ hnew_; rw [← Ny.out] at ho37; have HB36 := Lib.hid (below_step BX_.out.2 hb36); obtain ⟨Ao, co, eo⟩ := Kd.R_slice ho37; subst eo; have HRo := Lib.hid ho37; clear ho37 hb36) | (go_at_call 30; (with_reducible refine (frame_Put.calls (⟨#[68, 73, 79, 80]⟩ : ByteArray) 2 _ _ y rb re _ ?side1 ?side2 HRES2.out).mono ?_); (case side1 => exact (Kd.R_reads' HRo.out).2.2); (case side2 => exact (Kd.R_reads' HRo.out).2.1); rintro e w39 ⟨rfl, hb39⟩))
   go_ret2
   exact ⟨rfl, below_step HB36.out hb39⟩
set_option maxHeartbeats 8000000 in
set_option maxRecDepth 100000 in
theorem put_file2 (sum len way : Int) (A3 : Option Addr) (c3 : Nat) (file : ByteArray) (w0 : World) (hw : way = 2) (hl : 0 ≤ len ∧ len ≤ 4294967295) (h1 : way ≠ 1) (hf : file.toList.isEmpty = false) (rb : ByteArray) (re : Int) (hres : tailP sum len way file = some (rb, re)) :
  Calls Try.prog 37 #[.agg #[.int .u32 sum, .int .i64 len, .int .i64 way, .slice A3 0 c3, .string file]] w0 fun e w' => e = .returned (.tuple #[.string rb, .int .i64 re]) ∧ Below w0.heap.size w0 w' := by
 have t1 : decide (way < 0) = false := decide_eq_false (by omega)
 have t2 : decide (2 < way) = false := decide_eq_false (by omega)
 have t3 : decide (len < 0) = false := decide_eq_false (by omega)
 have t4 : decide (4294967295 < len) = false := decide_eq_false (by omega)
 have t7 : (way != 2) = false := bne_eq_false_iff_eq.mpr hw
 have hww : 0 ≤ way ∧ way ≤ 2 := by omega
 clear hw
 have hw := hww
 clear hww
 have t8 : (way == 1) = false := beq_eq_false_iff_ne.mpr h1
 have HRES := Lib.hid hres
 have LB := Lib.hid hl
 have WB := Lib.hid hw
 clear hres h1
 have BX_ : Hid ((w0.alloc (.cells #[.int .u32 sum, .int .i64 len, .int .i64 way, .slice A3 0 c3, .string file] 57)).heap[w0.heap.size]? = some (.cells #[.int .u32 sum, .int .i64 len, .int .i64 way, .slice A3 0 c3, .string file] 57 (0, 0)) ∧ Below w0.heap.size w0 (w0.alloc (.cells #[.int .u32 sum, .int .i64 len, .int .i64 way, .slice A3 0 c3, .string file] 57))) := Lib.hid ⟨heap_alloc_new w0 _, (Below.refl _ _).alloc (Nat.le_refl _) _⟩
 have hY := cells57 BX_
 obtain ⟨c0, c1, c2, c3', c4⟩ := hY
 skip
 go_enter Try.func37, Try.ntmps37
 go_wp2_with fail
 generalize w0.alloc (.cells #[.int .u32 sum, .int .i64 len, .int .i64 way, .slice A3 0 c3, .string file] 57) = W at BX_ ⊢
 obtain ⟨g, hgX⟩ : ∃ g, g = w0.heap.size := ⟨_, rfl⟩
 rw [← hgX]
 have BX2 : Hid (W.heap[g]? = some (.cells #[.int .u32 sum, .int .i64 len, .int .i64 way, .slice A3 0 c3, .string file] 57 (0, 0)) ∧ Below w0.heap.size w0 W) := by rw [hgX]; exact BX_
 clear BX_
 have BX_ := BX2
 clear BX2 hgX
 clear c0 c1 c2 c3' c4
 obtain ⟨v1, hv1⟩ : ∃ v, v = strOfNums (Pure.le4 sum) := ⟨_, rfl⟩
 obtain ⟨v2, hv2⟩ : ∃ v, v = strOfNums (Pure.le4 len) := ⟨_, rfl⟩
 obtain ⟨v3, hv3⟩ : ∃ v, v = strOfNums [way] := ⟨_, rfl⟩
 have hs1 : v1.size = 4 := by rw [hv1, strOfNums_size]; rfl
 have hs2 : v2.size = 4 := by rw [hv2, strOfNums_size]; rfl
 have hs3 : v3.size = 1 := by rw [hv3, strOfNums_size]; rfl
 have x1 : (9223372036854775807 < v1.size + v2.size) = False := eq_false (by omega)
 have x2 : (9223372036854775807 < v1.size + v2.size + v3.size) = False := eq_false (by omega)
 have HV1 : Hid (crc_Put.f sum = some v1) := Lib.hid (by rw [hv1]; rfl)
 have HV2 : Hid (crc_Put.f len = some v2) := Lib.hid (by rw [hv2]; rfl)
 have HFI : Hid (firstP sum len way = v1 ++ v2 ++ v3) := Lib.hid (by rw [hv1, hv2, hv3]; rfl)
 have HV3 := Lib.hid hv3
 clear hv1 hv2 hv3 hs1 hs2 hs3
 have hw3 : IntKind.u32.wrap len = len := by rw [IntKind.wrap_u32]; omega
 have hw5 : IntKind.u8.wrap way = way := by rw [IntKind.wrap_u8]; omega
 have hu5 := Try.underlying5
 have hu72 := Try.underlying72
 have hu9 := Try.underlying9
 have BD := Lib.hid (show _ ∧ _ from (⟨blk_drew BX_.out.1, below_drew1 BX_.out.2⟩ : _ ∧ Below w0.heap.size w0 _))
 obtain ⟨d0, d1, d2, _, _⟩ := cells57 BD
 refine wp_region_held_drew (S := fun w' => w'.cell? ⟨g, 0, none⟩ = some (.int .u32 sum) ∧ w'.cell? ⟨g, 1, none⟩ = some (.int .i64 len) ∧ w'.cell? ⟨g, 2, none⟩ = some (.int .i64 way)) (by kernel_rfl) ⟨d0, d1, d2⟩ (fun hHeld => ?_)
 clear d0 d1 d2 BX_
 have BX_ := BD
 clear BD
 generalize W.drew = W1 at BX_ hHeld ⊢
 refine tkz 0 rfl ?_ (.inl ⟨by rfl, ?_⟩) ?_
 rotate_left 1
 ·intro w hSw
  obtain ⟨s0, s1, s2⟩ := hSw
  go_simp
  (try with_reducible rfl)
 (try simp only [Act.put, zq1, zq2, zq3, zq4, zq5, zq6])
 refine tkz 1 rfl ?_ (.inl ⟨by rfl, ?_⟩) ?_
 rotate_left 1
 ·intro w hSw
  obtain ⟨s0, s1, s2⟩ := hSw
  go_simp
  (try with_reducible rfl)
 (try simp only [Act.put, zq1, zq2, zq3, zq4, zq5, zq6])
 refine tkz 3 rfl ?_ (.inl ⟨by rfl, ?_⟩) ?_
 rotate_left 1
 ·intro w hSw
  obtain ⟨s0, s1, s2⟩ := hSw
  go_simp
  (try with_reducible rfl)
 (try simp only [Act.put, zq1, zq2, zq3, zq4, zq5, zq6])
 refine tkz 4 rfl ?_ (.inl ⟨by rfl, ?_⟩) ?_
 rotate_left 1
 ·intro w hSw
  obtain ⟨s0, s1, s2⟩ := hSw
  go_simp
  (try with_reducible rfl)
 (try simp only [Act.put, zq1, zq2, zq3, zq4, zq5, zq6])
 refine tkz 5 rfl ?_ (.inl ⟨by rfl, ?_⟩) ?_
 rotate_left 1
 ·intro w hSw
  obtain ⟨s0, s1, s2⟩ := hSw
  go_simp
  (try with_reducible rfl)
 (try simp only [Act.put, zq1, zq2, zq3, zq4, zq5, zq6])
 refine tkz 8 rfl ?_ (.inl ⟨by rfl, ?_⟩) ?_
 rotate_left 1
 ·intro w hSw
  obtain ⟨s0, s1, s2⟩ := hSw
  go_simp
  (try with_reducible rfl)
 (try simp only [Act.put, zq1, zq2, zq3, zq4, zq5, zq6])
 refine tkz 9 rfl ?_ (.inl ⟨by rfl, ?_⟩) ?_
 rotate_left 1
 ·intro w hSw
  obtain ⟨s0, s1, s2⟩ := hSw
  go_simp
  (try with_reducible rfl)
 (try simp only [Act.put, zq1, zq2, zq3, zq4, zq5, zq6])
 refine tkz 10 rfl ?_ (.inl ⟨by rfl, ?_⟩) ?_
 rotate_left 1
 ·intro w hSw
  obtain ⟨s0, s1, s2⟩ := hSw
  go_simp
  (try with_reducible rfl)
 (try simp only [Act.put, zq1, zq2, zq3, zq4, zq5, zq6])
 refine wpAnyH_ready (rs := [2, 11]) (by kernel_rfl) (by simp) ?_
 refine AllReadyH.cons (o := _) rfl (fun K hK => ?_) (AllReadyH.cons (o := _) rfl (fun K hK => ?_) AllReadyH.nil)
 ·skip
  go_simp
  go_at_call 24
  refine (crc_Put.calls sum v1 _ HV1.out).mono ?_
  rintro e w_19 ⟨rfl, hb_⟩
  have BY := box57 BX_ hb_
  obtain ⟨d0, d1, d2, _, _⟩ := cells57 BY
  refine hK.out _ _ ⟨d0, d1, d2⟩ (fun hHeld => ?_)
  clear hK K d0 d1 d2 BX_
  have BX_ := BY
  clear BY
  (try simp only [Act.put, zq1, zq2, zq3, zq4, zq5, zq6])
  refine wpAnyH_ready (rs := [6, 11]) (by kernel_rfl) (by simp) ?_
  refine AllReadyH.cons (o := _) rfl (fun K hK => ?_) (AllReadyH.cons (o := _) rfl (fun K hK => ?_) AllReadyH.nil)
  ·skip
   go_simp
   go_at_call 24
   refine (crc_Put.calls len v2 _ HV2.out).mono ?_
   rintro e w_20 ⟨rfl, hb_⟩
   have BY := box57 BX_ hb_
   obtain ⟨d0, d1, d2, _, _⟩ := cells57 BY
   refine hK.out _ _ ⟨d0, d1, d2⟩ (fun hHeld => ?_)
   clear hK K d0 d1 d2 BX_
   have BX_ := BY
   clear BY
   (try simp only [Act.put, zq1, zq2, zq3, zq4, zq5, zq6])
   refine tkz 7 rfl ?_ (.inl ⟨by rfl, ?_⟩) ?_
   rotate_left 1
   ·intro w hSw
    obtain ⟨s0, s1, s2⟩ := hSw
    go_simp
    (try with_reducible rfl)
   (try simp only [Act.put, zq1, zq2, zq3, zq4, zq5, zq6])
   refine wpAnyH_ready (rs := [11]) (by kernel_rfl) (by simp) ?_
   refine AllReadyH.cons (o := _) rfl (fun K hK => ?_) AllReadyH.nil
   go_simp
   have BY := box57 BX_ (below_alloc (Below.refl _ w_20) (.cells #[.int .u8 way] 5))
   have CX := Lib.hid (one_C (heap_alloc_new w_20 (.cells #[.int .u8 way] 5)))
   generalize w_20.alloc (.cells #[.int .u8 way] 5) = w_21 at BY CX ⊢
   obtain ⟨d0, d1, d2, _, _⟩ := cells57 BY
   refine hK.out _ _ ⟨d0, d1, d2⟩ (fun hHeld => ?_)
   clear hK K d0 d1 d2 BX_
   have BX_ := BY
   clear BY
   (try simp only [Act.put, zq1, zq2, zq3, zq4, zq5, zq6])
   refine wpAnyH_ready (rs := [12]) (by kernel_rfl) (by simp) ?_
   refine AllReadyH.cons (o := _) rfl (fun K hK => ?_) AllReadyH.nil
   have cv := Kd.C_string (P := Try.prog) (src := 72) (dst := 9) (e := 5) (c := 1) Try.underlying72 Try.underlying5 Try.underlying9 CX.out
   rw [← HV3.out] at cv
   go_simp
   have BY := BX_
   clear cv
   obtain ⟨d0, d1, d2, _, _⟩ := cells57 BY
   refine hK.out _ _ ⟨d0, d1, d2⟩ (fun hHeld => ?_)
   clear hK K d0 d1 d2 BX_
   have BX_ := BY
   clear BY
   (try simp only [Act.put, zq1, zq2, zq3, zq4, zq5, zq6])
   refine tkz 13 rfl ?_ (.inl ⟨by rfl, ?_⟩) ?_
   rotate_left 1
   ·intro w hSw
    obtain ⟨s0, s1, s2⟩ := hSw
    go_simp
    (try with_reducible rfl)
   (try simp only [Act.put, zq1, zq2, zq3, zq4, zq5, zq6])
   refine tkz 14 rfl ?_ (.inl ⟨by rfl, ?_⟩) ?_
   rotate_left 1
   ·intro w hSw
    obtain ⟨s0, s1, s2⟩ := hSw
    go_simp
    (try with_reducible rfl)
   (try simp only [Act.put, zq1, zq2, zq3, zq4, zq5, zq6])
   refine wpAnyH_done (by kernel_rfl) ?_ _
   skip
   obtain ⟨y, hy⟩ : ∃ y : List S52, y = [(⟨1, v1 ++ v2 ++ v3⟩ : S52), (⟨2, file⟩ : S52)] := ⟨_, rfl⟩
   have HRES2 : Hid (frame_Put.f (⟨#[68, 73, 79, 80]⟩ : ByteArray) 2 y = some (rb, re)) := by rw [hy, ← HFI.out]; exact HRES
   have Ny := Lib.hid hy
   clear hy
   go_wp2_with (first | ((with_reducible refine gate_dst (N := 89) rfl ?_); refine Kd.R_lit k52 _ 52 ?hg (N := 89) ?hd (xs := ([(⟨1, v1 ++ v2 ++ v3⟩ : S52), (⟨2, file⟩ : S52)] : List S52)) (inner := [.int .i64 1, .string (v1 ++ v2 ++ v3), .int .i64 2, .string file]) (ok := fun _ => True) (okp := fun _ => True) ?hr ?hp (fun _ hk => hk) trivial (Below.refl _ _) (Nat.le_refl _) (by simp) ?_; (case hd => rfl); (case hg => rfl); (case hr => first | (go_simp; done) | (go_simp; rfl)); (case hp => exact (Reps.c2 (show Kd.M k52 _ _ _ (⟨1, v1 ++ v2 ++ v3⟩ : S52) [.int .i64 1, .string (v1 ++ v2 ++ v3)] from (k52_mkM _ _ _ (⟨1, v1 ++ v2 ++ v3⟩ : S52))) (Reps.c2 (show Kd.M k52 _ _ _ (⟨2, file⟩ : S52) [.int .i64 2, .string file] from (k52_mkM _ _ _ (⟨2, file⟩ : S52))) (Reps.none _ _)))); intro v231 w36 ho37 hb36 hg_ hnew_; clear hg_ hnew_; rw [← Ny.out] at ho37; have HB36 := Lib.hid (below_step BX_.out.2 hb36); obtain ⟨Ao, co, eo⟩ := Kd.R_slice ho37; subst eo; have HRo := Lib.hid ho37; clear ho37 hb36) | (go_at_call 30; (with_reducible refine (frame_Put.calls (⟨#[68, 73, 79, 80]⟩ : ByteArray) 2 _ _ y rb re _ ?side1 ?side2 HRES2.out).mono ?_); (case side1 => exact (Kd.R_reads' HRo.out).2.2); (case side2 => exact (Kd.R_reads' HRo.out).2.1); rintro e w39 ⟨rfl, hb39⟩))
   go_ret2
   exact ⟨rfl, below_step HB36.out hb39⟩
  ·skip
   go_simp
   have BY := box57 BX_ (below_alloc (Below.refl _ w_19) (.cells #[.int .u8 way] 5))
   have CX := Lib.hid (one_C (heap_alloc_new w_19 (.cells #[.int .u8 way] 5)))
   generalize w_19.alloc (.cells #[.int .u8 way] 5) = w_23 at BY CX ⊢
   obtain ⟨d0, d1, d2, _, _⟩ := cells57 BY
   refine hK.out _ _ ⟨d0, d1, d2⟩ (fun hHeld => ?_)
   clear hK K d0 d1 d2 BX_
   have BX_ := BY
   clear BY
   (try simp only [Act.put, zq1, zq2, zq3, zq4, zq5, zq6])
   refine wpAnyH_ready (rs := [6, 12]) (by kernel_rfl) (by simp) ?_
   refine AllReadyH.cons (o := _) rfl (fun K hK => ?_) (AllReadyH.cons (o := _) rfl (fun K hK => ?_) AllReadyH.nil)
   ·skip
    go_simp
    go_at_call 24
    refine (crc_Put.calls len v2 _ HV2.out).mono ?_
    rintro e w_24 ⟨rfl, hb_⟩
    have BY := box57 BX_ hb_
    have CX2 := Lib.hid (Kd.C_below CX.out hb_)
    clear CX
    have CX := CX2
    clear CX2
    obtain ⟨d0, d1, d2, _, _⟩ := cells57 BY
    refine hK.out _ _ ⟨d0, d1, d2⟩ (fun hHeld => ?_)
    clear hK K d0 d1 d2 BX_
    have BX_ := BY
    clear BY
    (try simp only [Act.put, zq1, zq2, zq3, zq4, zq5, zq6])
    refine tkz 7 rfl ?_ (.inl ⟨by rfl, ?_⟩) ?_
    rotate_left 1
    ·intro w hSw
     obtain ⟨s0, s1, s2⟩ := hSw
     go_simp
     (try with_reducible rfl)
    (try simp only [Act.put, zq1, zq2, zq3, zq4, zq5, zq6])
    refine wpAnyH_ready (rs := [12]) (by kernel_rfl) (by simp) ?_
    refine AllReadyH.cons (o := _) rfl (fun K hK => ?_) AllReadyH.nil
    have cv := Kd.C_string (P := Try.prog) (src := 72) (dst := 9) (e := 5) (c := 1) Try.underlying72 Try.underlying5 Try.underlying9 CX.out
    rw [← HV3.out] at cv
    go_simp
    have BY := BX_
    clear cv
    obtain ⟨d0, d1, d2, _, _⟩ := cells57 BY
    refine hK.out _ _ ⟨d0, d1, d2⟩ (fun hHeld => ?_)
    clear hK K d0 d1 d2 BX_
    have BX_ := BY
    clear BY
    (try simp only [Act.put, zq1, zq2, zq3, zq4, zq5, zq6])
    refine tkz 13 rfl ?_ (.inl ⟨by rfl, ?_⟩) ?_
    rotate_left 1
    ·intro w hSw
     obtain ⟨s0, s1, s2⟩ := hSw
     go_simp
     (try with_reducible rfl)
    (try simp only [Act.put, zq1, zq2, zq3, zq4, zq5, zq6])
    refine tkz 14 rfl ?_ (.inl ⟨by rfl, ?_⟩) ?_
    rotate_left 1
    ·intro w hSw
     obtain ⟨s0, s1, s2⟩ := hSw
     go_simp
     (try with_reducible rfl)
    (try simp only [Act.put, zq1, zq2, zq3, zq4, zq5, zq6])
    refine wpAnyH_done (by kernel_rfl) ?_ _
    skip
    obtain ⟨y, hy⟩ : ∃ y : List S52, y = [(⟨1, v1 ++ v2 ++ v3⟩ : S52), (⟨2, file⟩ : S52)] := ⟨_, rfl⟩
    have HRES2 : Hid (frame_Put.f (⟨#[68, 73, 79, 80]⟩ : ByteArray) 2 y = some (rb, re)) := by rw [hy, ← HFI.out]; exact HRES
    have Ny := Lib.hid hy
    clear hy
    go_wp2_with (first | ((with_reducible refine gate_dst (N := 89) rfl ?_); refine Kd.R_lit k52 _ 52 ?hg (N := 89) ?hd (xs := ([(⟨1, v1 ++ v2 ++ v3⟩ : S52), (⟨2, file⟩ : S52)] : List S52)) (inner := [.int .i64 1, .string (v1 ++ v2 ++ v3), .int .i64 2, .string file]) (ok := fun _ => True) (okp := fun _ => True) ?hr ?hp (fun _ hk => hk) trivial (Below.refl _ _) (Nat.le_refl _) (by simp) ?_; (case hd => rfl); (case hg => rfl); (case hr => first | (go_simp; done) | (go_simp; rfl)); (case hp => exact (Reps.c2 (show Kd.M k52 _ _ _ (⟨1, v1 ++ v2 ++ v3⟩ : S52) [.int .i64 1, .string (v1 ++ v2 ++ v3)] from (k52_mkM _ _ _ (⟨1, v1 ++ v2 ++ v3⟩ : S52))) (Reps.c2 (show Kd.M k52 _ _ _ (⟨2, file⟩ : S52) [.int .i64 2, .string file] from (k52_mkM _ _ _ (⟨2, file⟩ : S52))) (Reps.none _ _)))); intro v231 w36 ho37 hb36 hg_ hnew_; clear hg_ hnew_; rw [← Ny.out] at ho37; have HB36 := Lib.hid (below_step BX_.out.2 hb36); obtain ⟨Ao, co, eo⟩ := Kd.R_slice ho37; subst eo; have HRo := Lib.hid ho37; clear ho37 hb36) | (go_at_call 30; (with_reducible refine (frame_Put.calls (⟨#[68, 73, 79, 80]⟩ : ByteArray) 2 _ _ y rb re _ ?side1 ?side2 HRES2.out).mono ?_); (case side1 => exact (Kd.R_reads' HRo.out).2.2); (case side2 => exact (Kd.R_reads' HRo.out).2.1); rintro e w39 ⟨rfl, hb39⟩))
    go_ret2
    exact ⟨rfl, below_step HB36.out hb39⟩
   ·skip
    have cv := Kd.C_string (P := Try.prog) (src := 72) (dst := 9) (e := 5) (c := 1) Try.underlying72 Try.underlying5 Try.underlying9 CX.out
    rw [← HV3.out] at cv
    go_simp
    have BY := BX_
    clear cv
    obtain ⟨d0, d1, d2, _, _⟩ := cells57 BY
    refine hK.out _ _ ⟨d0, d1, d2⟩ (fun hHeld => ?_)
    clear hK K d0 d1 d2 BX_
    have BX_ := BY
    clear BY
    (try simp only [Act.put, zq1, zq2, zq3, zq4, zq5, zq6])
    refine wpAnyH_ready (rs := [6]) (by kernel_rfl) (by simp) ?_
    refine AllReadyH.cons (o := _) rfl (fun K hK => ?_) AllReadyH.nil
    go_simp
    go_at_call 24
    refine (crc_Put.calls len v2 _ HV2.out).mono ?_
    rintro e w_27 ⟨rfl, hb_⟩
    have BY := box57 BX_ hb_
    have CX2 := Lib.hid (Kd.C_below CX.out hb_)
    clear CX
    have CX := CX2
    clear CX2
    obtain ⟨d0, d1, d2, _, _⟩ := cells57 BY
    refine hK.out _ _ ⟨d0, d1, d2⟩ (fun hHeld => ?_)
    clear hK K d0 d1 d2 BX_
    have BX_ := BY
    clear BY
    (try simp only [Act.put, zq1, zq2, zq3, zq4, zq5, zq6])
    refine tkz 7 rfl ?_ (.inl ⟨by rfl, ?_⟩) ?_
    rotate_left 1
    ·intro w hSw
     obtain ⟨s0, s1, s2⟩ := hSw
     go_simp
     (try with_reducible rfl)
    (try simp only [Act.put, zq1, zq2, zq3, zq4, zq5, zq6])
    refine tkz 13 rfl ?_ (.inl ⟨by rfl, ?_⟩) ?_
    rotate_left 1
    ·intro w hSw
     obtain ⟨s0, s1, s2⟩ := hSw
     go_simp
     (try with_reducible rfl)
    (try simp only [Act.put, zq1, zq2, zq3, zq4, zq5, zq6])
    refine tkz 14 rfl ?_ (.inl ⟨by rfl, ?_⟩) ?_
    rotate_left 1
    ·intro w hSw
     obtain ⟨s0, s1, s2⟩ := hSw
     go_simp
     (try with_reducible rfl)
    (try simp only [Act.put, zq1, zq2, zq3, zq4, zq5, zq6])
    refine wpAnyH_done (by kernel_rfl) ?_ _
    skip
    obtain ⟨y, hy⟩ : ∃ y : List S52, y = [(⟨1, v1 ++ v2 ++ v3⟩ : S52), (⟨2, file⟩ : S52)] := ⟨_, rfl⟩
    have HRES2 : Hid (frame_Put.f (⟨#[68, 73, 79, 80]⟩ : ByteArray) 2 y = some (rb, re)) := by rw [hy, ← HFI.out]; exact HRES
    have Ny := Lib.hid hy
    clear hy
    go_wp2_with (first | ((with_reducible refine gate_dst (N := 89) rfl ?_); refine Kd.R_lit k52 _ 52 ?hg (N := 89) ?hd (xs := ([(⟨1, v1 ++ v2 ++ v3⟩ : S52), (⟨2, file⟩ : S52)] : List S52)) (inner := [.int .i64 1, .string (v1 ++ v2 ++ v3), .int .i64 2, .string file]) (ok := fun _ => True) (okp := fun _ => True) ?hr ?hp (fun _ hk => hk) trivial (Below.refl _ _) (Nat.le_refl _) (by simp) ?_; (case hd => rfl); (case hg => rfl); (case hr => first | (go_simp; done) | (go_simp; rfl)); (case hp => exact (Reps.c2 (show Kd.M k52 _ _ _ (⟨1, v1 ++ v2 ++ v3⟩ : S52) [.int .i64 1, .string (v1 ++ v2 ++ v3)] from (k52_mkM _ _ _ (⟨1, v1 ++ v2 ++ v3⟩ : S52))) (Reps.c2 (show Kd.M k52 _ _ _ (⟨2, file⟩ : S52) [.int .i64 2, .string file] from (k52_mkM _ _ _ (⟨2, file⟩ : S52))) (Reps.none _ _)))); intro v231 w36 ho37 hb36 hg_ hnew_; clear hg_ hnew_; rw [← Ny.out] at ho37; have HB36 := Lib.hid (below_step BX_.out.2 hb36); obtain ⟨Ao, co, eo⟩ := Kd.R_slice ho37; subst eo; have HRo := Lib.hid ho37; clear ho37 hb36) | (go_at_call 30; (with_reducible refine (frame_Put.calls (⟨#[68, 73, 79, 80]⟩ : ByteArray) 2 _ _ y rb re _ ?side1 ?side2 HRES2.out).mono ?_); (case side1 => exact (Kd.R_reads' HRo.out).2.2); (case side2 => exact (Kd.R_reads' HRo.out).2.1); rintro e w39 ⟨rfl, hb39⟩))
    go_ret2
    exact ⟨rfl, below_step HB36.out hb39⟩
 ·skip
  go_simp
  have BY := box57 BX_ (below_alloc (Below.refl _ W1) (.cells #[.int .u8 way] 5))
  have CX := Lib.hid (one_C (heap_alloc_new W1 (.cells #[.int .u8 way] 5)))
  generalize W1.alloc (.cells #[.int .u8 way] 5) = w_28 at BY CX ⊢
  obtain ⟨d0, d1, d2, _, _⟩ := cells57 BY
  refine hK.out _ _ ⟨d0, d1, d2⟩ (fun hHeld => ?_)
  clear hK K d0 d1 d2 BX_
  have BX_ := BY
  clear BY
  (try simp only [Act.put, zq1, zq2, zq3, zq4, zq5, zq6])
  refine wpAnyH_ready (rs := [2, 12]) (by kernel_rfl) (by simp) ?_
  refine AllReadyH.cons (o := _) rfl (fun K hK => ?_) (AllReadyH.cons (o := _) rfl (fun K hK => ?_) AllReadyH.nil)
  ·skip
   go_simp
   go_at_call 24
   refine (crc_Put.calls sum v1 _ HV1.out).mono ?_
   rintro e w_29 ⟨rfl, hb_⟩
   have BY := box57 BX_ hb_
   have CX2 := Lib.hid (Kd.C_below CX.out hb_)
   clear CX
   have CX := CX2
   clear CX2
   obtain ⟨d0, d1, d2, _, _⟩ := cells57 BY
   refine hK.out _ _ ⟨d0, d1, d2⟩ (fun hHeld => ?_)
   clear hK K d0 d1 d2 BX_
   have BX_ := BY
   clear BY
   (try simp only [Act.put, zq1, zq2, zq3, zq4, zq5, zq6])
   refine wpAnyH_ready (rs := [6, 12]) (by kernel_rfl) (by simp) ?_
   refine AllReadyH.cons (o := _) rfl (fun K hK => ?_) (AllReadyH.cons (o := _) rfl (fun K hK => ?_) AllReadyH.nil)
   ·skip
    go_simp
    go_at_call 24
    refine (crc_Put.calls len v2 _ HV2.out).mono ?_
    rintro e w_30 ⟨rfl, hb_⟩
    have BY := box57 BX_ hb_
    have CX2 := Lib.hid (Kd.C_below CX.out hb_)
    clear CX
    have CX := CX2
    clear CX2
    obtain ⟨d0, d1, d2, _, _⟩ := cells57 BY
    refine hK.out _ _ ⟨d0, d1, d2⟩ (fun hHeld => ?_)
    clear hK K d0 d1 d2 BX_
    have BX_ := BY
    clear BY
    (try simp only [Act.put, zq1, zq2, zq3, zq4, zq5, zq6])
    refine tkz 7 rfl ?_ (.inl ⟨by rfl, ?_⟩) ?_
    rotate_left 1
    ·intro w hSw
     obtain ⟨s0, s1, s2⟩ := hSw
     go_simp
     (try with_reducible rfl)
    (try simp only [Act.put, zq1, zq2, zq3, zq4, zq5, zq6])
    refine wpAnyH_ready (rs := [12]) (by kernel_rfl) (by simp) ?_
    refine AllReadyH.cons (o := _) rfl (fun K hK => ?_) AllReadyH.nil
    have cv := Kd.C_string (P := Try.prog) (src := 72) (dst := 9) (e := 5) (c := 1) Try.underlying72 Try.underlying5 Try.underlying9 CX.out
    rw [← HV3.out] at cv
    go_simp
    have BY := BX_
    clear cv
    obtain ⟨d0, d1, d2, _, _⟩ := cells57 BY
    refine hK.out _ _ ⟨d0, d1, d2⟩ (fun hHeld => ?_)
    clear hK K d0 d1 d2 BX_
    have BX_ := BY
    clear BY
    (try simp only [Act.put, zq1, zq2, zq3, zq4, zq5, zq6])
    refine tkz 13 rfl ?_ (.inl ⟨by rfl, ?_⟩) ?_
    rotate_left 1
    ·intro w hSw
     obtain ⟨s0, s1, s2⟩ := hSw
     go_simp
     (try with_reducible rfl)
    (try simp only [Act.put, zq1, zq2, zq3, zq4, zq5, zq6])
    refine tkz 14 rfl ?_ (.inl ⟨by rfl, ?_⟩) ?_
    rotate_left 1
    ·intro w hSw
     obtain ⟨s0, s1, s2⟩ := hSw
     go_simp
     (try with_reducible rfl)
    (try simp only [Act.put, zq1, zq2, zq3, zq4, zq5, zq6])
    refine wpAnyH_done (by kernel_rfl) ?_ _
    skip
    obtain ⟨y, hy⟩ : ∃ y : List S52, y = [(⟨1, v1 ++ v2 ++ v3⟩ : S52), (⟨2, file⟩ : S52)] := ⟨_, rfl⟩
    have HRES2 : Hid (frame_Put.f (⟨#[68, 73, 79, 80]⟩ : ByteArray) 2 y = some (rb, re)) := by rw [hy, ← HFI.out]; exact HRES
    have Ny := Lib.hid hy
    clear hy
    go_wp2_with (first | ((with_reducible refine gate_dst (N := 89) rfl ?_); refine Kd.R_lit k52 _ 52 ?hg (N := 89) ?hd (xs := ([(⟨1, v1 ++ v2 ++ v3⟩ : S52), (⟨2, file⟩ : S52)] : List S52)) (inner := [.int .i64 1, .string (v1 ++ v2 ++ v3), .int .i64 2, .string file]) (ok := fun _ => True) (okp := fun _ => True) ?hr ?hp (fun _ hk => hk) trivial (Below.refl _ _) (Nat.le_refl _) (by simp) ?_; (case hd => rfl); (case hg => rfl); (case hr => first | (go_simp; done) | (go_simp; rfl)); (case hp => exact (Reps.c2 (show Kd.M k52 _ _ _ (⟨1, v1 ++ v2 ++ v3⟩ : S52) [.int .i64 1, .string (v1 ++ v2 ++ v3)] from (k52_mkM _ _ _ (⟨1, v1 ++ v2 ++ v3⟩ : S52))) (Reps.c2 (show Kd.M k52 _ _ _ (⟨2, file⟩ : S52) [.int .i64 2, .string file] from (k52_mkM _ _ _ (⟨2, file⟩ : S52))) (Reps.none _ _)))); intro v231 w36 ho37 hb36 hg_ hnew_; clear hg_ hnew_; rw [← Ny.out] at ho37; have HB36 := Lib.hid (below_step BX_.out.2 hb36); obtain ⟨Ao, co, eo⟩ := Kd.R_slice ho37; subst eo; have HRo := Lib.hid ho37; clear ho37 hb36) | (go_at_call 30; (with_reducible refine (frame_Put.calls (⟨#[68, 73, 79, 80]⟩ : ByteArray) 2 _ _ y rb re _ ?side1 ?side2 HRES2.out).mono ?_); (case side1 => exact (Kd.R_reads' HRo.out).2.2); (case side2 => exact (Kd.R_reads' HRo.out).2.1); rintro e w39 ⟨rfl, hb39⟩))
    go_ret2
    exact ⟨rfl, below_step HB36.out hb39⟩
   ·skip
    have cv := Kd.C_string (P := Try.prog) (src := 72) (dst := 9) (e := 5) (c := 1) Try.underlying72 Try.underlying5 Try.underlying9 CX.out
    rw [← HV3.out] at cv
    go_simp
    have BY := BX_
    clear cv
    obtain ⟨d0, d1, d2, _, _⟩ := cells57 BY
    refine hK.out _ _ ⟨d0, d1, d2⟩ (fun hHeld => ?_)
    clear hK K d0 d1 d2 BX_
    have BX_ := BY
    clear BY
    (try simp only [Act.put, zq1, zq2, zq3, zq4, zq5, zq6])
    refine wpAnyH_ready (rs := [6]) (by kernel_rfl) (by simp) ?_
    refine AllReadyH.cons (o := _) rfl (fun K hK => ?_) AllReadyH.nil
    go_simp
    go_at_call 24
    refine (crc_Put.calls len v2 _ HV2.out).mono ?_
    rintro e w_33 ⟨rfl, hb_⟩
    have BY := box57 BX_ hb_
    have CX2 := Lib.hid (Kd.C_below CX.out hb_)
    clear CX
    have CX := CX2
    clear CX2
    obtain ⟨d0, d1, d2, _, _⟩ := cells57 BY
    refine hK.out _ _ ⟨d0, d1, d2⟩ (fun hHeld => ?_)
    clear hK K d0 d1 d2 BX_
    have BX_ := BY
    clear BY
    (try simp only [Act.put, zq1, zq2, zq3, zq4, zq5, zq6])
    refine tkz 7 rfl ?_ (.inl ⟨by rfl, ?_⟩) ?_
    rotate_left 1
    ·intro w hSw
     obtain ⟨s0, s1, s2⟩ := hSw
     go_simp
     (try with_reducible rfl)
    (try simp only [Act.put, zq1, zq2, zq3, zq4, zq5, zq6])
    refine tkz 13 rfl ?_ (.inl ⟨by rfl, ?_⟩) ?_
    rotate_left 1
    ·intro w hSw
     obtain ⟨s0, s1, s2⟩ := hSw
     go_simp
     (try with_reducible rfl)
    (try simp only [Act.put, zq1, zq2, zq3, zq4, zq5, zq6])
    refine tkz 14 rfl ?_ (.inl ⟨by rfl, ?_⟩) ?_
    rotate_left 1
    ·intro w hSw
     obtain ⟨s0, s1, s2⟩ := hSw
     go_simp
     (try with_reducible rfl)
    (try simp only [Act.put, zq1, zq2, zq3, zq4, zq5, zq6])
    refine wpAnyH_done (by kernel_rfl) ?_ _
    skip
    obtain ⟨y, hy⟩ : ∃ y : List S52, y = [(⟨1, v1 ++ v2 ++ v3⟩ : S52), (⟨2, file⟩ : S52)] := ⟨_, rfl⟩
    have HRES2 : Hid (frame_Put.f (⟨#[68, 73, 79, 80]⟩ : ByteArray) 2 y = some (rb, re)) := by rw [hy, ← HFI.out]; exact HRES
    have Ny := Lib.hid hy
    clear hy
    go_wp2_with (first | ((with_reducible refine gate_dst (N := 89) rfl ?_); refine Kd.R_lit k52 _ 52 ?hg (N := 89) ?hd (xs := ([(⟨1, v1 ++ v2 ++ v3⟩ : S52), (⟨2, file⟩ : S52)] : List S52)) (inner := [.int .i64 1, .string (v1 ++ v2 ++ v3), .int .i64 2, .string file]) (ok := fun _ => True) (okp := fun _ => True) ?hr ?hp (fun _ hk => hk) trivial (Below.refl _ _) (Nat.le_refl _) (by simp) ?_; (case hd => rfl); (case hg => rfl); (case hr => first | (go_simp; done) | (go_simp; rfl)); (case hp => exact (Reps.c2 (show Kd.M k52 _ _ _ (⟨1, v1 ++ v2 ++ v3⟩ : S52) [.int .i64 1, .string (v1 ++ v2 ++ v3)] from (k52_mkM _ _ _ (⟨1, v1 ++ v2 ++ v3⟩ : S52))) (Reps.c2 (show Kd.M k52 _ _ _ (⟨2, file⟩ : S52) [.int .i64 2, .string file] from (k52_mkM _ _ _ (⟨2, file⟩ : S52))) (Reps.none _ _)))); intro v231 w36 ho37 hb36 hg_ hnew_; clear hg_ hnew_; rw [← Ny.out] at ho37; have HB36 := Lib.hid (below_step BX_.out.2 hb36); obtain ⟨Ao, co, eo⟩ := Kd.R_slice ho37; subst eo; have HRo := Lib.hid ho37; clear ho37 hb36) | (go_at_call 30; (with_reducible refine (frame_Put.calls (⟨#[68, 73, 79, 80]⟩ : ByteArray) 2 _ _ y rb re _ ?side1 ?side2 HRES2.out).mono ?_); (case side1 => exact (Kd.R_reads' HRo.out).2.2); (case side2 => exact (Kd.R_reads' HRo.out).2.1); rintro e w39 ⟨rfl, hb39⟩))
    go_ret2
    exact ⟨rfl, below_step HB36.out hb39⟩
  ·skip
   have cv := Kd.C_string (P := Try.prog) (src := 72) (dst := 9) (e := 5) (c := 1) Try.underlying72 Try.underlying5 Try.underlying9 CX.out
   rw [← HV3.out] at cv
   go_simp
   have BY := BX_
   clear cv
   obtain ⟨d0, d1, d2, _, _⟩ := cells57 BY
   refine hK.out _ _ ⟨d0, d1, d2⟩ (fun hHeld => ?_)
   clear hK K d0 d1 d2 BX_
   have BX_ := BY
   clear BY
   (try simp only [Act.put, zq1, zq2, zq3, zq4, zq5, zq6])
   refine wpAnyH_ready (rs := [2]) (by kernel_rfl) (by simp) ?_
   refine AllReadyH.cons (o := _) rfl (fun K hK => ?_) AllReadyH.nil
   go_simp
   go_at_call 24
   refine (crc_Put.calls sum v1 _ HV1.out).mono ?_
   rintro e w_35 ⟨rfl, hb_⟩
   have BY := box57 BX_ hb_
   have CX2 := Lib.hid (Kd.C_below CX.out hb_)
   clear CX
   have CX := CX2
   clear CX2
   obtain ⟨d0, d1, d2, _, _⟩ := cells57 BY
   refine hK.out _ _ ⟨d0, d1, d2⟩ (fun hHeld => ?_)
   clear hK K d0 d1 d2 BX_
   have BX_ := BY
   clear BY
   (try simp only [Act.put, zq1, zq2, zq3, zq4, zq5, zq6])
   refine wpAnyH_ready (rs := [6]) (by kernel_rfl) (by simp) ?_
   refine AllReadyH.cons (o := _) rfl (fun K hK => ?_) AllReadyH.nil
   go_simp
   go_at_call 24
   refine (crc_Put.calls len v2 _ HV2.out).mono ?_
   rintro e w_36 ⟨rfl, hb_⟩
   have BY := box57 BX_ hb_
   have CX2 := Lib.hid (Kd.C_below CX.out hb_)
   clear CX
   have CX := CX2
   clear CX2
   obtain ⟨d0, d1, d2, _, _⟩ := cells57 BY
   refine hK.out _ _ ⟨d0, d1, d2⟩ (fun hHeld => ?_)
   clear hK K d0 d1 d2 BX_
   have BX_ := BY
   clear BY
   (try simp only [Act.put, zq1, zq2, zq3, zq4, zq5, zq6])
   refine tkz 7 rfl ?_ (.inl ⟨by rfl, ?_⟩) ?_
   rotate_left 1
   ·intro w hSw
    obtain ⟨s0, s1, s2⟩ := hSw
    go_simp
    (try with_reducible rfl)
   (try simp only [Act.put, zq1, zq2, zq3, zq4, zq5, zq6])
   refine tkz 13 rfl ?_ (.inl ⟨by rfl, ?_⟩) ?_
   rotate_left 1
   ·intro w hSw
    obtain ⟨s0, s1, s2⟩ := hSw
    go_simp
    (try with_reducible rfl)
   (try simp only [Act.put, zq1, zq2, zq3, zq4, zq5, zq6])
   refine tkz 14 rfl ?_ (.inl ⟨by rfl, ?_⟩) ?_
   rotate_left 1
   ·intro w hSw
    obtain ⟨s0, s1, s2⟩ := hSw
    go_simp
    (try with_reducible rfl)
   (try simp only [Act.put, zq1, zq2, zq3, zq4, zq5, zq6])
   refine wpAnyH_done (by kernel_rfl) ?_ _
   skip
   obtain ⟨y, hy⟩ : ∃ y : List S52, y = [(⟨1, v1 ++ v2 ++ v3⟩ : S52), (⟨2, file⟩ : S52)] := ⟨_, rfl⟩
   have HRES2 : Hid (frame_Put.f (⟨#[68, 73, 79, 80]⟩ : ByteArray) 2 y = some (rb, re)) := by rw [hy, ← HFI.out]; exact HRES
   have Ny := Lib.hid hy
   clear hy
   go_wp2_with (first | ((with_reducible refine gate_dst (N := 89) rfl ?_); refine Kd.R_lit k52 _ 52 ?hg (N := 89) ?hd (xs := ([(⟨1, v1 ++ v2 ++ v3⟩ : S52), (⟨2, file⟩ : S52)] : List S52)) (inner := [.int .i64 1, .string (v1 ++ v2 ++ v3), .int .i64 2, .string file]) (ok := fun _ => True) (okp := fun _ => True) ?hr ?hp (fun _ hk => hk) trivial (Below.refl _ _) (Nat.le_refl _) (by simp) ?_; (case hd => rfl); (case hg => rfl); (case hr => first | (go_simp; done) | (go_simp; rfl)); (case hp => exact (Reps.c2 (show Kd.M k52 _ _ _ (⟨1, v1 ++ v2 ++ v3⟩ : S52) [.int .i64 1, .string (v1 ++ v2 ++ v3)] from (k52_mkM _ _ _ (⟨1, v1 ++ v2 ++ v3⟩ : S52))) (Reps.c2 (show Kd.M k52 _ _ _ (⟨2, file⟩ : S52) [.int .i64 2, .string file] from (k52_mkM _ _ _ (⟨2, file⟩ : S52))) (Reps.none _ _)))); intro v231 w36 ho37 hb36 hg_ hnew_; clear hg_ hnew_; rw [← Ny.out] at ho37; have HB36 := Lib.hid (below_step BX_.out.2 hb36); obtain ⟨Ao, co, eo⟩ := Kd.R_slice ho37; subst eo; have HRo := Lib.hid ho37; clear ho37 hb36) | (go_at_call 30; (with_reducible refine (frame_Put.calls (⟨#[68, 73, 79, 80]⟩ : ByteArray) 2 _ _ y rb re _ ?side1 ?side2 HRES2.out).mono ?_); (case side1 => exact (Kd.R_reads' HRo.out).2.2); (case side2 => exact (Kd.R_reads' HRo.out).2.1); rintro e w39 ⟨rfl, hb39⟩))
   go_ret2
   exact ⟨rfl, below_step HB36.out hb39⟩
set_option maxHeartbeats 8000000 in
set_option maxRecDepth 100000 in
theorem put_ops21 (sum len : Int) (A3 : Option Addr) (c3 : Nat) (ops : List S107) (file : ByteArray) (w0 : World) (hl : 0 ≤ len ∧ len ≤ 4294967295) (hf : file.toList.isEmpty = true) (g3 : Kd.C k107 w0 A3 ops.length ops) (hlen : (opsB ops).length + 10 ≤ 140737488355328) (hno : opsNo ops = true) :
  Calls Try.prog 37 #[.agg #[.int .u32 sum, .int .i64 len, .int .i64 1, .slice A3 ops.length c3, .string file]] w0 fun e w' => e = .returned (.tuple #[.string ⟨#[]⟩, .int .i64 21]) ∧ Below w0.heap.size w0 w' := by
 have t3 : decide (len < 0) = false := decide_eq_false (by omega)
 have t4 : decide (4294967295 < len) = false := decide_eq_false (by omega)
 skip
 have G3 := Lib.hid g3
 have LLo : Hid (ops.length ≤ 9223372036854775807) := Lib.hid g3.2.1
 clear g3
 have BX_ : Hid ((w0.alloc (.cells #[.int .u32 sum, .int .i64 len, .int .i64 1, .slice A3 ops.length c3, .string file] 57)).heap[w0.heap.size]? = some (.cells #[.int .u32 sum, .int .i64 len, .int .i64 1, .slice A3 ops.length c3, .string file] 57 (0, 0)) ∧ Below w0.heap.size w0 (w0.alloc (.cells #[.int .u32 sum, .int .i64 len, .int .i64 1, .slice A3 ops.length c3, .string file] 57))) := Lib.hid ⟨heap_alloc_new w0 _, (Below.refl _ _).alloc (Nat.le_refl _) _⟩
 go_enter Try.func37, Try.ntmps37
 go_upto_region 1 with (fail)
 go_cut [47] (fun v47 wc => v47 = .bool false ∧ Hid (wc.heap[w0.heap.size]? = some (.cells #[.int .u32 sum, .int .i64 len, .int .i64 1, .slice A3 ops.length c3, .string file] 57 (0, 0)) ∧ Below w0.heap.size w0 wc))
 case first =>
  by_cases ho : 0 < ops.length
  ·have t5 : decide (0 < ops.length) = true := decide_eq_true ho
   clear ho hl
   go_wp2_with fail
   go_meet
   case rel => exact ⟨rfl, BX_⟩
  ·have t5 : decide (0 < ops.length) = false := decide_eq_false ho
   clear ho hl
   go_wp2_with fail
   go_meet
   case rel => exact ⟨rfl, BX_⟩
 case rest =>
  obtain ⟨rfl, BY_⟩ := hcut
  clear BX_ t3 t4
  rename_i wc
  have LB := Lib.hid hl
  obtain ⟨g, hgX⟩ : ∃ g, g = w0.heap.size := ⟨_, rfl⟩
  rw [← hgX]
  have BX_ : Hid (wc.heap[g]? = some (.cells #[.int .u32 sum, .int .i64 len, .int .i64 1, .slice A3 ops.length c3, .string file] 57 (0, 0)) ∧ Below w0.heap.size w0 wc) := by rw [hgX]; exact BY_
  clear BY_ hgX
  obtain ⟨c0, c1, c2, c3', c4⟩ := cells57 BX_
  have N0 : NS w0 w0 wc.heap.size g #[.int .u32 sum, .int .i64 len, .int .i64 1, .slice A3 ops.length c3, .string file] 57 [] false (wc.alloc (.cells #[.pointer none, .slice none 0 0, .bool false] 97)) := ⟨⟨.pointer none, .slice none 0 0, .inl rfl, BX_.out.2.size, heap_alloc_new wc _, ⟨by simp [Lib.byteCells], .inl ⟨rfl, rfl⟩⟩⟩, KeepB.of_below (BX_.out.2.alloc BX_.out.2.size _), blk_below BX_.out.1 (below_alloc (Below.refl _ _) _), Nat.ne_of_lt (blk_lt BX_.out.1), by decide, BX_.out.2.alloc BX_.out.2.size _⟩
  have N_ := Lib.hid N0
  clear N0 BX_
  have z3 := N_.out.cell 3
  obtain ⟨T, hT⟩ : ∃ T, opsB ops = T := ⟨_, rfl⟩
  obtain ⟨F, hF⟩ : ∃ F, opsNo ops = F := ⟨_, rfl⟩
  have HTE := Lib.hid hT
  have HFE := Lib.hid hF
  have LT : T.length + 10 ≤ 140737488355328 := by rw [← hT]; exact hlen
  clear hlen
  unfold opsB at hT
  unfold opsNo at hF
  have HT_ : Hid ([] ++ (numB ops.length ++ ops.flatMap opB) = T) := Lib.hid (by rw [List.nil_append]; exact hT)
  have HF_ : Hid ((false || (noB ops.length || ops.any opNo)) = F) := Lib.hid (by rw [Bool.false_or]; exact hF)
  clear hT hF
  go_wp2_with fail
  refine (uint_calls (ops.length : Int) N_.out.iw (by have := pre_len HT_.out; simp only [List.length_nil]; omega) N_.out.sz).mono ?_
  rintro e w1 ⟨rfl, i_, k_⟩
  have n_ := Lib.hid (N_.out.step i_ k_)
  have h_ := HT_.out
  rw [← List.append_assoc] at h_
  have t_ := Lib.hid h_
  clear h_
  have h_ := HF_.out
  rw [← Bool.or_assoc] at h_
  have f_ := Lib.hid h_
  clear h_
  clear i_ k_ N_ HT_ HF_ z3 c0 c1 c2 c3' c4
  have N_ := n_
  have HT_ := t_
  have HF_ := f_
  clear n_ t_ f_
  generalize [] ++ numB (ops.length : Int) = a1 at N_ HT_
  generalize (false || noB (ops.length : Int)) = q1 at N_ HF_
  have z3 : w1.cell? ⟨g, 3, none⟩ = some (.slice A3 ops.length c3) := N_.out.cell 3
  generalize wc.heap.size = b at N_ ⊢
  have h_ := HT_.out
  rw [← List.append_nil (ops.flatMap opB)] at h_
  have t_ := Lib.hid h_
  clear h_ HT_
  have h_ := HF_.out
  rw [← Bool.or_false (ops.any opNo)] at h_
  have f_ := Lib.hid h_
  clear h_ HF_
  go_wp2_with fail
  go_loopw [7, 60] (fun _ i wr => ∃ n : Nat, n ≤ ops.length ∧ i = .int .i64 n ∧ ∃ acc_ wq_, Hid (NS w0 w0 b g #[.int .u32 sum, .int .i64 len, .int .i64 1, .slice A3 ops.length c3, .string file] 57 acc_ wq_ wr) ∧ Hid (acc_ ++ ((ops.drop n).flatMap opB ++ []) = T) ∧ Hid ((wq_ || ((ops.drop n).any opNo || false)) = F)) (fun _ i _ => ops.length - (intOf i).toNat)
  case atStart => exact ⟨0, Nat.zero_le _, rfl, _, _, N_, t_, f_⟩
  case round =>
   obtain ⟨n, hn, rfl, acc, wq, N_, HT_, HF_⟩ := hrel
   by_cases hlt : n < ops.length
   ·have hd : decide ((n : Int) < (ops.length : Int)) = true := decide_eq_true (by omega)
    have HLT := Lib.hid hlt
    obtain ⟨ad, B2, d2, B3, d3, B5, d5, B6, d6, B7, d7, hA, k0, k1, k2, k3, k4, k5, k6, k7, e2, f2, e3, f3, e5, f5, e6, f6, e7, f7⟩ := at_T107 G3.out (n : Int) (by omega) (by omega)
    subst hA
    have hrd : rd_T107 ops (n : Int) = ops[n] := by unfold rd_T107; rw [List.getD_eq_getElem?_getD, Int.toNat_natCast, List.getElem?_eq_getElem hlt]; rfl
    rw [Int.toNat_natCast, hrd] at k0 k1 k2 k3 k4 k5 k6 k7
    rw [hrd] at e2 f2 e3 f3 e5 f5 e6 f6 e7 f7
    clear hrd
    have hdr : ops.drop n = ops[n] :: ops.drop (n + 1) := List.drop_eq_getElem_cons hlt
    rw [hdr, List.flatMap_cons, List.append_assoc] at HT_
    rw [hdr, List.any_cons, Bool.or_assoc] at HF_
    clear hdr
    generalize ops[n] = o at k0 k1 k2 k3 k4 k5 k6 k7 e2 f2 e3 f3 e5 f5 e6 f6 e7 f7 HT_ HF_
    clear hlt hn
    have k0 := pw_cell_below N_.out.bl k0
    have k1 := pw_cell_below N_.out.bl k1
    have k2 := pw_cell_below N_.out.bl k2
    have k3 := pw_cell_below N_.out.bl k3
    have k4 := pw_cell_below N_.out.bl k4
    have k5 := pw_cell_below N_.out.bl k5
    have k6 := pw_cell_below N_.out.bl k6
    have k7 := pw_cell_below N_.out.bl k7
    have E2 := Lib.hid e2
    have E3 := Lib.hid e3
    have E5 := Lib.hid e5
    have E6 := Lib.hid e6
    have E7 := Lib.hid e7
    have FF2 := Lib.hid f2
    have FF3 := Lib.hid f3
    have FF5 := Lib.hid f5
    have FF6 := Lib.hid f6
    have FF7 := Lib.hid f7
    clear e2 f2 e3 f3 e5 f5 e6 f6 e7 f7
    have M_ := Lib.hid (NS2.new #[.int .i64 o.f0, .int .i64 o.f1, .slice B2 o.f2.length d2, .slice B3 o.f3.length d3, .int .i64 o.f4.f0, .slice B5 o.f4.f1.length d5, .slice B6 o.f4.f2.length d6, .slice B7 o.f4.f3.length d7] 107 (by decide) N_.out)
    clear N_
    have N_ := M_
    clear M_
    generalize hgE : wr.heap.size = gE at N_
    have yc : ∀ j, (wr.alloc (.cells #[.int .i64 o.f0, .int .i64 o.f1, .slice B2 o.f2.length d2, .slice B3 o.f3.length d3, .int .i64 o.f4.f0, .slice B5 o.f4.f1.length d5, .slice B6 o.f4.f2.length d6, .slice B7 o.f4.f3.length d7] 107)).cell? ⟨gE, j, none⟩ = (#[Value.int .i64 o.f0, .int .i64 o.f1, .slice B2 o.f2.length d2, .slice B3 o.f3.length d3, .int .i64 o.f4.f0, .slice B5 o.f4.f1.length d5, .slice B6 o.f4.f2.length d6, .slice B7 o.f4.f3.length d7])[j]? := fun j => N_.out.cell j
    have y0 := yc 0
    have y1 := yc 1
    have y2 := yc 2
    have y3 := yc 3
    have y4 := yc 4
    have y5 := yc 5
    have y6 := yc 6
    have y7 := yc 7
    clear yc
    go_wp2_with fail
    refine (op_calls o B2 B3 B5 B6 B7 d2 d3 d5 d6 d7 w0 _ b _ _ N_.out.ns.bl N_.out.ns.iw E2.out FF2.out E3.out FF3.out E5.out FF5.out E6.out FF6.out E7.out FF7.out (by have := pre_len HT_.out; simp only [List.length_append] at this ⊢; omega)).mono ?_
    rintro e w2 ⟨rfl, i_, k_⟩
    have n_ := Lib.hid (N_.out.step i_ k_)
    have h_ := HT_.out
    rw [← List.append_assoc] at h_
    have t_ := Lib.hid h_
    clear h_
    have h_ := HF_.out
    rw [← Bool.or_assoc] at h_
    have f_ := Lib.hid h_
    clear h_
    clear i_ k_ N_ HT_ HF_
    go_wp2_with fail
    go_roundw
    case rel => exact ⟨n + 1, HLT.out, by rw [wrap_succ HLT.out LLo.out], _, _, Lib.hid n_.out.ns, t_, f_⟩
    case measure => rw [wrap_succ HLT.out LLo.out]; have := HLT.out; simp [intOf]; omega
   ·obtain rfl : n = ops.length := by omega
    have hd : decide ((ops.length : Int) < (ops.length : Int)) = false := decide_eq_false (by omega)
    rw [List.drop_of_length_le (Nat.le_refl _), List.flatMap_nil, List.nil_append, List.append_nil] at HT_
    rw [List.drop_of_length_le (Nat.le_refl _), List.any_nil, Bool.false_or, Bool.or_false] at HF_
    have hTa := HT_.out
    have hFa := HF_.out
    subst hTa hFa
    clear HT_ HF_
    obtain ⟨cw, fw⟩ := N_.out.iw.c2
    clear z3 hlt hn
    have hq : wq = true := by rw [← HFE.out]; exact hno
    subst hq
    go_wp2_with fail
    go_ret2
    exact ⟨rfl, N_.out.bl⟩
set_option maxHeartbeats 8000000 in
set_option maxRecDepth 100000 in
theorem put_ops (sum len : Int) (A3 : Option Addr) (c3 : Nat) (ops : List S107) (file : ByteArray) (w0 : World) (hl : 0 ≤ len ∧ len ≤ 4294967295) (hf : file.toList.isEmpty = true) (g3 : Kd.C k107 w0 A3 ops.length ops) (hlen : (opsB ops).length + 10 ≤ 140737488355328) (hno : opsNo ops = false) (rb : ByteArray) (re : Int) (hres : tailP sum len 1 ⟨(opsB ops).toArray⟩ = some (rb, re)) :
  Calls Try.prog 37 #[.agg #[.int .u32 sum, .int .i64 len, .int .i64 1, .slice A3 ops.length c3, .string file]] w0 fun e w' => e = .returned (.tuple #[.string rb, .int .i64 re]) ∧ Below w0.heap.size w0 w' := by
 have t3 : decide (len < 0) = false := decide_eq_false (by omega)
 have t4 : decide (4294967295 < len) = false := decide_eq_false (by omega)
 have HRES := Lib.hid hres
 have G3 := Lib.hid g3
 have LLo : Hid (ops.length ≤ 9223372036854775807) := Lib.hid g3.2.1
 clear hres g3
 have BX_ : Hid ((w0.alloc (.cells #[.int .u32 sum, .int .i64 len, .int .i64 1, .slice A3 ops.length c3, .string file] 57)).heap[w0.heap.size]? = some (.cells #[.int .u32 sum, .int .i64 len, .int .i64 1, .slice A3 ops.length c3, .string file] 57 (0, 0)) ∧ Below w0.heap.size w0 (w0.alloc (.cells #[.int .u32 sum, .int .i64 len, .int .i64 1, .slice A3 ops.length c3, .string file] 57))) := Lib.hid ⟨heap_alloc_new w0 _, (Below.refl _ _).alloc (Nat.le_refl _) _⟩
 go_enter Try.func37, Try.ntmps37
 go_upto_region 1 with (fail)
 go_cut [47] (fun v47 wc => v47 = .bool false ∧ Hid (wc.heap[w0.heap.size]? = some (.cells #[.int .u32 sum, .int .i64 len, .int .i64 1, .slice A3 ops.length c3, .string file] 57 (0, 0)) ∧ Below w0.heap.size w0 wc))
 case first =>
  by_cases ho : 0 < ops.length
  ·have t5 : decide (0 < ops.length) = true := decide_eq_true ho
   clear ho hl
   go_wp2_with fail
   go_meet
   case rel => exact ⟨rfl, BX_⟩
  ·have t5 : decide (0 < ops.length) = false := decide_eq_false ho
   clear ho hl
   go_wp2_with fail
   go_meet
   case rel => exact ⟨rfl, BX_⟩
 case rest =>
  obtain ⟨rfl, BY_⟩ := hcut
  clear BX_ t3 t4
  rename_i wc
  have LB := Lib.hid hl
  obtain ⟨g, hgX⟩ : ∃ g, g = w0.heap.size := ⟨_, rfl⟩
  rw [← hgX]
  have BX_ : Hid (wc.heap[g]? = some (.cells #[.int .u32 sum, .int .i64 len, .int .i64 1, .slice A3 ops.length c3, .string file] 57 (0, 0)) ∧ Below w0.heap.size w0 wc) := by rw [hgX]; exact BY_
  clear BY_ hgX
  obtain ⟨c0, c1, c2, c3', c4⟩ := cells57 BX_
  have N0 : NS w0 w0 wc.heap.size g #[.int .u32 sum, .int .i64 len, .int .i64 1, .slice A3 ops.length c3, .string file] 57 [] false (wc.alloc (.cells #[.pointer none, .slice none 0 0, .bool false] 97)) := ⟨⟨.pointer none, .slice none 0 0, .inl rfl, BX_.out.2.size, heap_alloc_new wc _, ⟨by simp [Lib.byteCells], .inl ⟨rfl, rfl⟩⟩⟩, KeepB.of_below (BX_.out.2.alloc BX_.out.2.size _), blk_below BX_.out.1 (below_alloc (Below.refl _ _) _), Nat.ne_of_lt (blk_lt BX_.out.1), by decide, BX_.out.2.alloc BX_.out.2.size _⟩
  have N_ := Lib.hid N0
  clear N0 BX_
  have z3 := N_.out.cell 3
  obtain ⟨T, hT⟩ : ∃ T, opsB ops = T := ⟨_, rfl⟩
  obtain ⟨F, hF⟩ : ∃ F, opsNo ops = F := ⟨_, rfl⟩
  have HTE := Lib.hid hT
  have HFE := Lib.hid hF
  have LT : T.length + 10 ≤ 140737488355328 := by rw [← hT]; exact hlen
  clear hlen
  unfold opsB at hT
  unfold opsNo at hF
  have HT_ : Hid ([] ++ (numB ops.length ++ ops.flatMap opB) = T) := Lib.hid (by rw [List.nil_append]; exact hT)
  have HF_ : Hid ((false || (noB ops.length || ops.any opNo)) = F) := Lib.hid (by rw [Bool.false_or]; exact hF)
  clear hT hF
  go_wp2_with fail
  refine (uint_calls (ops.length : Int) N_.out.iw (by have := pre_len HT_.out; simp only [List.length_nil]; omega) N_.out.sz).mono ?_
  rintro e w1 ⟨rfl, i_, k_⟩
  have n_ := Lib.hid (N_.out.step i_ k_)
  have h_ := HT_.out
  rw [← List.append_assoc] at h_
  have t_ := Lib.hid h_
  clear h_
  have h_ := HF_.out
  rw [← Bool.or_assoc] at h_
  have f_ := Lib.hid h_
  clear h_
  clear i_ k_ N_ HT_ HF_ z3 c0 c1 c2 c3' c4
  have N_ := n_
  have HT_ := t_
  have HF_ := f_
  clear n_ t_ f_
  generalize [] ++ numB (ops.length : Int) = a1 at N_ HT_
  generalize (false || noB (ops.length : Int)) = q1 at N_ HF_
  have z3 : w1.cell? ⟨g, 3, none⟩ = some (.slice A3 ops.length c3) := N_.out.cell 3
  generalize wc.heap.size = b at N_ ⊢
  have h_ := HT_.out
  rw [← List.append_nil (ops.flatMap opB)] at h_
  have t_ := Lib.hid h_
  clear h_ HT_
  have h_ := HF_.out
  rw [← Bool.or_false (ops.any opNo)] at h_
  have f_ := Lib.hid h_
  clear h_ HF_
  go_wp2_with fail
  go_loopw [7, 60] (fun _ i wr => ∃ n : Nat, n ≤ ops.length ∧ i = .int .i64 n ∧ ∃ acc_ wq_, Hid (NS w0 w0 b g #[.int .u32 sum, .int .i64 len, .int .i64 1, .slice A3 ops.length c3, .string file] 57 acc_ wq_ wr) ∧ Hid (acc_ ++ ((ops.drop n).flatMap opB ++ []) = T) ∧ Hid ((wq_ || ((ops.drop n).any opNo || false)) = F)) (fun _ i _ => ops.length - (intOf i).toNat)
  case atStart => exact ⟨0, Nat.zero_le _, rfl, _, _, N_, t_, f_⟩
  case round =>
   obtain ⟨n, hn, rfl, acc, wq, N_, HT_, HF_⟩ := hrel
   by_cases hlt : n < ops.length
   ·have hd : decide ((n : Int) < (ops.length : Int)) = true := decide_eq_true (by omega)
    have HLT := Lib.hid hlt
    obtain ⟨ad, B2, d2, B3, d3, B5, d5, B6, d6, B7, d7, hA, k0, k1, k2, k3, k4, k5, k6, k7, e2, f2, e3, f3, e5, f5, e6, f6, e7, f7⟩ := at_T107 G3.out (n : Int) (by omega) (by omega)
    subst hA
    have hrd : rd_T107 ops (n : Int) = ops[n] := by unfold rd_T107; rw [List.getD_eq_getElem?_getD, Int.toNat_natCast, List.getElem?_eq_getElem hlt]; rfl
    rw [Int.toNat_natCast, hrd] at k0 k1 k2 k3 k4 k5 k6 k7
    rw [hrd] at e2 f2 e3 f3 e5 f5 e6 f6 e7 f7
    clear hrd
    have hdr : ops.drop n = ops[n] :: ops.drop (n + 1) := List.drop_eq_getElem_cons hlt
    rw [hdr, List.flatMap_cons, List.append_assoc] at HT_
    rw [hdr, List.any_cons, Bool.or_assoc] at HF_
    clear hdr
    generalize ops[n] = o at k0 k1 k2 k3 k4 k5 k6 k7 e2 f2 e3 f3 e5 f5 e6 f6 e7 f7 HT_ HF_
    clear hlt hn
    have k0 := pw_cell_below N_.out.bl k0
    have k1 := pw_cell_below N_.out.bl k1
    have k2 := pw_cell_below N_.out.bl k2
    have k3 := pw_cell_below N_.out.bl k3
    have k4 := pw_cell_below N_.out.bl k4
    have k5 := pw_cell_below N_.out.bl k5
    have k6 := pw_cell_below N_.out.bl k6
    have k7 := pw_cell_below N_.out.bl k7
    have E2 := Lib.hid e2
    have E3 := Lib.hid e3
    have E5 := Lib.hid e5
    have E6 := Lib.hid e6
    have E7 := Lib.hid e7
    have FF2 := Lib.hid f2
    have FF3 := Lib.hid f3
    have FF5 := Lib.hid f5
    have FF6 := Lib.hid f6
    have FF7 := Lib.hid f7
    clear e2 f2 e3 f3 e5 f5 e6 f6 e7 f7
    have M_ := Lib.hid (NS2.new #[.int .i64 o.f0, .int .i64 o.f1, .slice B2 o.f2.length d2, .slice B3 o.f3.length d3, .int .i64 o.f4.f0, .slice B5 o.f4.f1.length d5, .slice B6 o.f4.f2.length d6, .slice B7 o.f4.f3.length d7] 107 (by decide) N_.out)
    clear N_
    have N_ := M_
    clear M_
    generalize hgE : wr.heap.size = gE at N_
    have yc : ∀ j, (wr.alloc (.cells #[.int .i64 o.f0, .int .i64 o.f1, .slice B2 o.f2.length d2, .slice B3 o.f3.length d3, .int .i64 o.f4.f0, .slice B5 o.f4.f1.length d5, .slice B6 o.f4.f2.length d6, .slice B7 o.f4.f3.length d7] 107)).cell? ⟨gE, j, none⟩ = (#[Value.int .i64 o.f0, .int .i64 o.f1, .slice B2 o.f2.length d2, .slice B3 o.f3.length d3, .int .i64 o.f4.f0, .slice B5 o.f4.f1.length d5, .slice B6 o.f4.f2.length d6, .slice B7 o.f4.f3.length d7])[j]? := fun j => N_.out.cell j
    have y0 := yc 0
    have y1 := yc 1
    have y2 := yc 2
    have y3 := yc 3
    have y4 := yc 4
    have y5 := yc 5
    have y6 := yc 6
    have y7 := yc 7
    clear yc
    go_wp2_with fail
    refine (op_calls o B2 B3 B5 B6 B7 d2 d3 d5 d6 d7 w0 _ b _ _ N_.out.ns.bl N_.out.ns.iw E2.out FF2.out E3.out FF3.out E5.out FF5.out E6.out FF6.out E7.out FF7.out (by have := pre_len HT_.out; simp only [List.length_append] at this ⊢; omega)).mono ?_
    rintro e w2 ⟨rfl, i_, k_⟩
    have n_ := Lib.hid (N_.out.step i_ k_)
    have h_ := HT_.out
    rw [← List.append_assoc] at h_
    have t_ := Lib.hid h_
    clear h_
    have h_ := HF_.out
    rw [← Bool.or_assoc] at h_
    have f_ := Lib.hid h_
    clear h_
    clear i_ k_ N_ HT_ HF_
    go_wp2_with fail
    go_roundw
    case rel => exact ⟨n + 1, HLT.out, by rw [wrap_succ HLT.out LLo.out], _, _, Lib.hid n_.out.ns, t_, f_⟩
    case measure => rw [wrap_succ HLT.out LLo.out]; have := HLT.out; simp [intOf]; omega
   ·obtain rfl : n = ops.length := by omega
    have hd : decide ((ops.length : Int) < (ops.length : Int)) = false := decide_eq_false (by omega)
    rw [List.drop_of_length_le (Nat.le_refl _), List.flatMap_nil, List.nil_append, List.append_nil] at HT_
    rw [List.drop_of_length_le (Nat.le_refl _), List.any_nil, Bool.false_or, Bool.or_false] at HF_
    have hTa := HT_.out
    have hFa := HF_.out
    subst hTa hFa
    clear HT_ HF_
    obtain ⟨cw, fw⟩ := N_.out.iw.c2
    clear z3 hlt hn
    have hq : wq = false := by rw [← HFE.out]; exact hno
    subst hq
    have hne : acc ≠ [] := by rw [← HTE.out]; unfold opsB; intro h_; have := congrArg List.length h_; have h2_ := numB_pos (ops.length : Int); simp only [List.length_append, List.length_nil] at this; omega
    have HNE := Lib.hid hne
    clear hne
    go_wp2_with fail
    refine (string_keep N_.out.iw HNE.out).mono ?_
    rintro e w3 ⟨rfl, k_⟩
    have N2 := N_.out
    have hb2 : w3.heap[g]? = some (.cells #[.int .u32 sum, .int .i64 len, .int .i64 1, .slice A3 ops.length c3, .string file] 57 (0, 0)) := by rw [k_.block _ N2.lt N2.ne (.inr fun cs' fr hh => by rw [N2.bx] at hh; simp at hh)]; exact N2.bx
    have BX_ : Hid (w3.heap[g]? = some (.cells #[.int .u32 sum, .int .i64 len, .int .i64 1, .slice A3 ops.length c3, .string file] 57 (0, 0)) ∧ Below w0.heap.size w0 w3) := Lib.hid ⟨hb2, keep_bl N2.iw.ge N2.bl k_⟩
    clear N_ N2 hb2 k_ cw fw
    have hPL : (⟨acc.toArray⟩ : ByteArray) = ⟨(opsB ops).toArray⟩ := by rw [HTE.out]
    obtain ⟨pl, hpl⟩ : ∃ pl : ByteArray, pl = ⟨acc.toArray⟩ := ⟨_, rfl⟩
    rw [← hpl]
    rw [← hPL, ← hpl] at HRES
    clear hPL hpl HTE HFE
    generalize w3 = W at BX_ ⊢
    go_wp2_with fail
    obtain ⟨v1, hv1⟩ : ∃ v, v = strOfNums (Pure.le4 sum) := ⟨_, rfl⟩
    obtain ⟨v2, hv2⟩ : ∃ v, v = strOfNums (Pure.le4 len) := ⟨_, rfl⟩
    obtain ⟨v3, hv3⟩ : ∃ v, v = strOfNums [1] := ⟨_, rfl⟩
    have hs1 : v1.size = 4 := by rw [hv1, strOfNums_size]; rfl
    have hs2 : v2.size = 4 := by rw [hv2, strOfNums_size]; rfl
    have hs3 : v3.size = 1 := by rw [hv3, strOfNums_size]; rfl
    have x1 : (9223372036854775807 < v1.size + v2.size) = False := eq_false (by omega)
    have x2 : (9223372036854775807 < v1.size + v2.size + v3.size) = False := eq_false (by omega)
    have HV1 : Hid (crc_Put.f sum = some v1) := Lib.hid (by rw [hv1]; rfl)
    have HV2 : Hid (crc_Put.f len = some v2) := Lib.hid (by rw [hv2]; rfl)
    have HFI : Hid (firstP sum len 1 = v1 ++ v2 ++ v3) := Lib.hid (by rw [hv1, hv2, hv3]; rfl)
    have HV3 := Lib.hid hv3
    clear hv1 hv2 hv3 hs1 hs2 hs3
    have hw3 : IntKind.u32.wrap len = len := by rw [IntKind.wrap_u32]; omega
    have hw5 : IntKind.u8.wrap 1 = 1 := by rw [IntKind.wrap_u8]; omega
    have hu5 := Try.underlying5
    have hu72 := Try.underlying72
    have hu9 := Try.underlying9
    have BD := Lib.hid (show _ ∧ _ from (⟨blk_drew BX_.out.1, below_drew1 BX_.out.2⟩ : _ ∧ Below w0.heap.size w0 _))
    obtain ⟨d0, d1, d2, _, _⟩ := cells57 BD
    refine wp_region_held_drew (S := fun w' => w'.cell? ⟨g, 0, none⟩ = some (.int .u32 sum) ∧ w'.cell? ⟨g, 1, none⟩ = some (.int .i64 len) ∧ w'.cell? ⟨g, 2, none⟩ = some (.int .i64 1)) (by kernel_rfl) ⟨d0, d1, d2⟩ (fun hHeld => ?_)
    clear d0 d1 d2 BX_
    have BX_ := BD
    clear BD
    generalize W.drew = W1 at BX_ hHeld ⊢
    refine tkz 0 rfl ?_ (.inl ⟨by rfl, ?_⟩) ?_
    rotate_left 1
    ·intro w hSw
     obtain ⟨s0, s1, s2⟩ := hSw
     go_simp
     (try with_reducible rfl)
    (try simp only [Act.put, zq1, zq2, zq3, zq4, zq5, zq6])
    refine tkz 1 rfl ?_ (.inl ⟨by rfl, ?_⟩) ?_
    rotate_left 1
    ·intro w hSw
     obtain ⟨s0, s1, s2⟩ := hSw
     go_simp
     (try with_reducible rfl)
    (try simp only [Act.put, zq1, zq2, zq3, zq4, zq5, zq6])
    refine tkz 3 rfl ?_ (.inl ⟨by rfl, ?_⟩) ?_
    rotate_left 1
    ·intro w hSw
     obtain ⟨s0, s1, s2⟩ := hSw
     go_simp
     (try with_reducible rfl)
    (try simp only [Act.put, zq1, zq2, zq3, zq4, zq5, zq6])
    refine tkz 4 rfl ?_ (.inl ⟨by rfl, ?_⟩) ?_
    rotate_left 1
    ·intro w hSw
     obtain ⟨s0, s1, s2⟩ := hSw
     go_simp
     (try with_reducible rfl)
    (try simp only [Act.put, zq1, zq2, zq3, zq4, zq5, zq6])
    refine tkz 5 rfl ?_ (.inl ⟨by rfl, ?_⟩) ?_
    rotate_left 1
    ·intro w hSw
     obtain ⟨s0, s1, s2⟩ := hSw
     go_simp
     (try with_reducible rfl)
    (try simp only [Act.put, zq1, zq2, zq3, zq4, zq5, zq6])
    refine tkz 8 rfl ?_ (.inl ⟨by rfl, ?_⟩) ?_
    rotate_left 1
    ·intro w hSw
     obtain ⟨s0, s1, s2⟩ := hSw
     go_simp
     (try with_reducible rfl)
    (try simp only [Act.put, zq1, zq2, zq3, zq4, zq5, zq6])
    refine tkz 9 rfl ?_ (.inl ⟨by rfl, ?_⟩) ?_
    rotate_left 1
    ·intro w hSw
     obtain ⟨s0, s1, s2⟩ := hSw
     go_simp
     (try with_reducible rfl)
    (try simp only [Act.put, zq1, zq2, zq3, zq4, zq5, zq6])
    refine tkz 10 rfl ?_ (.inl ⟨by rfl, ?_⟩) ?_
    rotate_left 1
    ·intro w hSw
     obtain ⟨s0, s1, s2⟩ := hSw
     go_simp
     (try with_reducible rfl)
    (try simp only [Act.put, zq1, zq2, zq3, zq4, zq5, zq6])
    refine wpAnyH_ready (rs := [2, 11]) (by kernel_rfl) (by simp) ?_
    refine AllReadyH.cons (o := _) rfl (fun K hK => ?_) (AllReadyH.cons (o := _) rfl (fun K hK => ?_) AllReadyH.nil)
    ·skip
     go_simp
     go_at_call 24
     refine (crc_Put.calls sum v1 _ HV1.out).mono ?_
     rintro e w_37 ⟨rfl, hb_⟩
     have BY := box57 BX_ hb_
     obtain ⟨d0, d1, d2, _, _⟩ := cells57 BY
     refine hK.out _ _ ⟨d0, d1, d2⟩ (fun hHeld => ?_)
     clear hK K d0 d1 d2 BX_
     have BX_ := BY
     clear BY
     (try simp only [Act.put, zq1, zq2, zq3, zq4, zq5, zq6])
     refine wpAnyH_ready (rs := [6, 11]) (by kernel_rfl) (by simp) ?_
     refine AllReadyH.cons (o := _) rfl (fun K hK => ?_) (AllReadyH.cons (o := _) rfl (fun K hK => ?_) AllReadyH.nil)
     ·skip
      go_simp
      go_at_call 24
      refine (crc_Put.calls len v2 _ HV2.out).mono ?_
      rintro e w_38 ⟨rfl, hb_⟩
      have BY := box57 BX_ hb_
      obtain ⟨d0, d1, d2, _, _⟩ := cells57 BY
      refine hK.out _ _ ⟨d0, d1, d2⟩ (fun hHeld => ?_)
      clear hK K d0 d1 d2 BX_
      have BX_ := BY
      clear BY
      (try simp only [Act.put, zq1, zq2, zq3, zq4, zq5, zq6])
      refine tkz 7 rfl ?_ (.inl ⟨by rfl, ?_⟩) ?_
      rotate_left 1
      ·intro w hSw
       obtain ⟨s0, s1, s2⟩ := hSw
       go_simp
       (try with_reducible rfl)
      (try simp only [Act.put, zq1, zq2, zq3, zq4, zq5, zq6])
      refine wpAnyH_ready (rs := [11]) (by kernel_rfl) (by simp) ?_
      refine AllReadyH.cons (o := _) rfl (fun K hK => ?_) AllReadyH.nil
      go_simp
      have BY := box57 BX_ (below_alloc (Below.refl _ w_38) (.cells #[.int .u8 1] 5))
      have CX := Lib.hid (one_C (heap_alloc_new w_38 (.cells #[.int .u8 1] 5)))
      generalize w_38.alloc (.cells #[.int .u8 1] 5) = w_39 at BY CX ⊢
      obtain ⟨d0, d1, d2, _, _⟩ := cells57 BY
      refine hK.out _ _ ⟨d0, d1, d2⟩ (fun hHeld => ?_)
      clear hK K d0 d1 d2 BX_
      have BX_ := BY
      clear BY
      (try simp only [Act.put, zq1, zq2, zq3, zq4, zq5, zq6])
      refine wpAnyH_ready (rs := [12]) (by kernel_rfl) (by simp) ?_
      refine AllReadyH.cons (o := _) rfl (fun K hK => ?_) AllReadyH.nil
      have cv := Kd.C_string (P := Try.prog) (src := 72) (dst := 9) (e := 5) (c := 1) Try.underlying72 Try.underlying5 Try.underlying9 CX.out
      rw [← HV3.out] at cv
      go_simp
      have BY := BX_
      clear cv
      obtain ⟨d0, d1, d2, _, _⟩ := cells57 BY
      refine hK.out _ _ ⟨d0, d1, d2⟩ (fun hHeld => ?_)
      clear hK K d0 d1 d2 BX_
      have BX_ := BY
      clear BY
      (try simp only [Act.put, zq1, zq2, zq3, zq4, zq5, zq6])
      refine tkz 13 rfl ?_ (.inl ⟨by rfl, ?_⟩) ?_
      rotate_left 1
      ·intro w hSw
       obtain ⟨s0, s1, s2⟩ := hSw
       go_simp
       (try with_reducible rfl)
      (try simp only [Act.put, zq1, zq2, zq3, zq4, zq5, zq6])
      refine tkz 14 rfl ?_ (.inl ⟨by rfl, ?_⟩) ?_
      rotate_left 1
      ·intro w hSw
       obtain ⟨s0, s1, s2⟩ := hSw
       go_simp
       (try with_reducible rfl)
      (try simp only [Act.put, zq1, zq2, zq3, zq4, zq5, zq6])
      refine wpAnyH_done (by kernel_rfl) ?_ _
      skip
      obtain ⟨y, hy⟩ : ∃ y : List S52, y = [(⟨1, v1 ++ v2 ++ v3⟩ : S52), (⟨2, pl⟩ : S52)] := ⟨_, rfl⟩
      have HRES2 : Hid (frame_Put.f (⟨#[68, 73, 79, 80]⟩ : ByteArray) 2 y = some (rb, re)) := by rw [hy, ← HFI.out]; exact HRES
      have Ny := Lib.hid hy
      clear hy
      go_wp2_with (first | ((with_reducible refine gate_dst (N := 89) rfl ?_); refine Kd.R_lit k52 _ 52 ?hg (N := 89) ?hd (xs := ([(⟨1, v1 ++ v2 ++ v3⟩ : S52), (⟨2, pl⟩ : S52)] : List S52)) (inner := [.int .i64 1, .string (v1 ++ v2 ++ v3), .int .i64 2, .string pl]) (ok := fun _ => True) (okp := fun _ => True) ?hr ?hp (fun _ hk => hk) trivial (Below.refl _ _) (Nat.le_refl _) (by simp) ?_; (case hd => rfl); (case hg => rfl); (case hr => first | (go_simp; done) | (go_simp; rfl)); (case hp => exact (Reps.c2 (show Kd.M k52 _ _ _ (⟨1, v1 ++ v2 ++ v3⟩ : S52) [.int .i64 1, .string (v1 ++ v2 ++ v3)] from (k52_mkM _ _ _ (⟨1, v1 ++ v2 ++ v3⟩ : S52))) (Reps.c2 (show Kd.M k52 _ _ _ (⟨2, pl⟩ : S52) [.int .i64 2, .string pl] from (k52_mkM _ _ _ (⟨2, pl⟩ : S52))) (Reps.none _ _)))); intro v231 w36 ho37 hb36 hg_ hnew_; clear hg_ hnew_; rw [← Ny.out] at ho37; have HB36 := Lib.hid (below_step BX_.out.2 hb36); obtain ⟨Ao, co, eo⟩ := Kd.R_slice ho37; subst eo; have HRo := Lib.hid ho37; clear ho37 hb36) | (go_at_call 30; (with_reducible refine (frame_Put.calls (⟨#[68, 73, 79, 80]⟩ : ByteArray) 2 _ _ y rb re _ ?side1 ?side2 HRES2.out).mono ?_); (case side1 => exact (Kd.R_reads' HRo.out).2.2); (case side2 => exact (Kd.R_reads' HRo.out).2.1); rintro e w39 ⟨rfl, hb39⟩))
      go_ret2
      exact ⟨rfl, below_step HB36.out hb39⟩
     ·skip
      go_simp
      have BY := box57 BX_ (below_alloc (Below.refl _ w_37) (.cells #[.int .u8 1] 5))
      have CX := Lib.hid (one_C (heap_alloc_new w_37 (.cells #[.int .u8 1] 5)))
      generalize w_37.alloc (.cells #[.int .u8 1] 5) = w_41 at BY CX ⊢
      obtain ⟨d0, d1, d2, _, _⟩ := cells57 BY
      refine hK.out _ _ ⟨d0, d1, d2⟩ (fun hHeld => ?_)
      clear hK K d0 d1 d2 BX_
      have BX_ := BY
      clear BY
      (try simp only [Act.put, zq1, zq2, zq3, zq4, zq5, zq6])
      refine wpAnyH_ready (rs := [6, 12]) (by kernel_rfl) (by simp) ?_
      refine AllReadyH.cons (o := _) rfl (fun K hK => ?_) (AllReadyH.cons (o := _) rfl (fun K hK => ?_) AllReadyH.nil)
      ·skip
       go_simp
       go_at_call 24
       refine (crc_Put.calls len v2 _ HV2.out).mono ?_
       rintro e w_42 ⟨rfl, hb_⟩
       have BY := box57 BX_ hb_
       have CX2 := Lib.hid (Kd.C_below CX.out hb_)
       clear CX
       have CX := CX2
       clear CX2
       obtain ⟨d0, d1, d2, _, _⟩ := cells57 BY
       refine hK.out _ _ ⟨d0, d1, d2⟩ (fun hHeld => ?_)
       clear hK K d0 d1 d2 BX_
       have BX_ := BY
       clear BY
       (try simp only [Act.put, zq1, zq2, zq3, zq4, zq5, zq6])
       refine tkz 7 rfl ?_ (.inl ⟨by rfl, ?_⟩) ?_
       rotate_left 1
       ·intro w hSw
        obtain ⟨s0, s1, s2⟩ := hSw
        go_simp
        (try with_reducible rfl)
       (try simp only [Act.put, zq1, zq2, zq3, zq4, zq5, zq6])
       refine wpAnyH_ready (rs := [12]) (by kernel_rfl) (by simp) ?_
       refine AllReadyH.cons (o := _) rfl (fun K hK => ?_) AllReadyH.nil
       have cv := Kd.C_string (P := Try.prog) (src := 72) (dst := 9) (e := 5) (c := 1) Try.underlying72 Try.underlying5 Try.underlying9 CX.out
       rw [← HV3.out] at cv
       go_simp
       have BY := BX_
       clear cv
       obtain ⟨d0, d1, d2, _, _⟩ := cells57 BY
       refine hK.out _ _ ⟨d0, d1, d2⟩ (fun hHeld => ?_)
       clear hK K d0 d1 d2 BX_
       have BX_ := BY
       clear BY
       (try simp only [Act.put, zq1, zq2, zq3, zq4, zq5, zq6])
       refine tkz 13 rfl ?_ (.inl ⟨by rfl, ?_⟩) ?_
       rotate_left 1
       ·intro w hSw
        obtain ⟨s0, s1, s2⟩ := hSw
        go_simp
        (try with_reducible rfl)
       (try simp only [Act.put, zq1, zq2, zq3, zq4, zq5, zq6])
       refine tkz 14 rfl ?_ (.inl ⟨by rfl, ?_⟩) ?_
       rotate_left 1
       ·intro w hSw
        obtain ⟨s0, s1, s2⟩ := hSw
        go_simp
        (try with_reducible rfl)
       (try simp only [Act.put, zq1, zq2, zq3, zq4, zq5, zq6])
       refine wpAnyH_done (by kernel_rfl) ?_ _
       skip
       obtain ⟨y, hy⟩ : ∃ y : List S52, y = [(⟨1, v1 ++ v2 ++ v3⟩ : S52), (⟨2, pl⟩ : S52)] := ⟨_, rfl⟩
       have HRES2 : Hid (frame_Put.f (⟨#[68, 73, 79, 80]⟩ : ByteArray) 2 y = some (rb, re)) := by rw [hy, ← HFI.out]; exact HRES
       have Ny := Lib.hid hy
       clear hy
       go_wp2_with (first | ((with_reducible refine gate_dst (N := 89) rfl ?_); refine Kd.R_lit k52 _ 52 ?hg (N := 89) ?hd (xs := ([(⟨1, v1 ++ v2 ++ v3⟩ : S52), (⟨2, pl⟩ : S52)] : List S52)) (inner := [.int .i64 1, .string (v1 ++ v2 ++ v3), .int .i64 2, .string pl]) (ok := fun _ => True) (okp := fun _ => True) ?hr ?hp (fun _ hk => hk) trivial (Below.refl _ _) (Nat.le_refl _) (by simp) ?_; (case hd => rfl); (case hg => rfl); (case hr => first | (go_simp; done) | (go_simp; rfl)); (case hp => exact (Reps.c2 (show Kd.M k52 _ _ _ (⟨1, v1 ++ v2 ++ v3⟩ : S52) [.int .i64 1, .string (v1 ++ v2 ++ v3)] from (k52_mkM _ _ _ (⟨1, v1 ++ v2 ++ v3⟩ : S52))) (Reps.c2 (show Kd.M k52 _ _ _ (⟨2, pl⟩ : S52) [.int .i64 2, .string pl] from (k52_mkM _ _ _ (⟨2, pl⟩ : S52))) (Reps.none _ _)))); intro v231 w36 ho37 hb36 hg_ hnew_; clear hg_ hnew_; rw [← Ny.out] at ho37; have HB36 := Lib.hid (below_step BX_.out.2 hb36); obtain ⟨Ao, co, eo⟩ := Kd.R_slice ho37; subst eo; have HRo := Lib.hid ho37; clear ho37 hb36) | (go_at_call 30; (with_reducible refine (frame_Put.calls (⟨#[68, 73, 79, 80]⟩ : ByteArray) 2 _ _ y rb re _ ?side1 ?side2 HRES2.out).mono ?_); (case side1 => exact (Kd.R_reads' HRo.out).2.2); (case side2 => exact (Kd.R_reads' HRo.out).2.1); rintro e w39 ⟨rfl, hb39⟩))
       go_ret2
       exact ⟨rfl, below_step HB36.out hb39⟩
      ·skip
       have cv := Kd.C_string (P := Try.prog) (src := 72) (dst := 9) (e := 5) (c := 1) Try.underlying72 Try.underlying5 Try.underlying9 CX.out
       rw [← HV3.out] at cv
       go_simp
       have BY := BX_
       clear cv
       obtain ⟨d0, d1, d2, _, _⟩ := cells57 BY
       refine hK.out _ _ ⟨d0, d1, d2⟩ (fun hHeld => ?_)
       clear hK K d0 d1 d2 BX_
       have BX_ := BY
       clear BY
       (try simp only [Act.put, zq1, zq2, zq3, zq4, zq5, zq6])
       refine wpAnyH_ready (rs := [6]) (by kernel_rfl) (by simp) ?_
       refine AllReadyH.cons (o := _) rfl (fun K hK => ?_) AllReadyH.nil
       go_simp
       go_at_call 24
       refine (crc_Put.calls len v2 _ HV2.out).mono ?_
       rintro e w_45 ⟨rfl, hb_⟩
       have BY := box57 BX_ hb_
       have CX2 := Lib.hid (Kd.C_below CX.out hb_)
       clear CX
       have CX := CX2
       clear CX2
       obtain ⟨d0, d1, d2, _, _⟩ := cells57 BY
       refine hK.out _ _ ⟨d0, d1, d2⟩ (fun hHeld => ?_)
       clear hK K d0 d1 d2 BX_
       have BX_ := BY
       clear BY
       (try simp only [Act.put, zq1, zq2, zq3, zq4, zq5, zq6])
       refine tkz 7 rfl ?_ (.inl ⟨by rfl, ?_⟩) ?_
       rotate_left 1
       ·intro w hSw
        obtain ⟨s0, s1, s2⟩ := hSw
        go_simp
        (try with_reducible rfl)
       (try simp only [Act.put, zq1, zq2, zq3, zq4, zq5, zq6])
       refine tkz 13 rfl ?_ (.inl ⟨by rfl, ?_⟩) ?_
       rotate_left 1
       ·intro w hSw
        obtain ⟨s0, s1, s2⟩ := hSw
        go_simp
        (try with_reducible rfl)
       (try simp only [Act.put, zq1, zq2, zq3, zq4, zq5, zq6])
       refine tkz 14 rfl ?_ (.inl ⟨by rfl, ?_⟩) ?_
       rotate_left 1
       ·intro w hSw
        obtain ⟨s0, s1, s2⟩ := hSw
        go_simp
        (try with_reducible rfl)
       (try simp only [Act.put, zq1, zq2, zq3, zq4, zq5, zq6])
       refine wpAnyH_done (by kernel_rfl) ?_ _
       skip
       obtain ⟨y, hy⟩ : ∃ y : List S52, y = [(⟨1, v1 ++ v2 ++ v3⟩ : S52), (⟨2, pl⟩ : S52)] := ⟨_, rfl⟩
       have HRES2 : Hid (frame_Put.f (⟨#[68, 73, 79, 80]⟩ : ByteArray) 2 y = some (rb, re)) := by rw [hy, ← HFI.out]; exact HRES
       have Ny := Lib.hid hy
       clear hy
       go_wp2_with (first | ((with_reducible refine gate_dst (N := 89) rfl ?_); refine Kd.R_lit k52 _ 52 ?hg (N := 89) ?hd (xs := ([(⟨1, v1 ++ v2 ++ v3⟩ : S52), (⟨2, pl⟩ : S52)] : List S52)) (inner := [.int .i64 1, .string (v1 ++ v2 ++ v3), .int .i64 2, .string pl]) (ok := fun _ => True) (okp := fun _ => True) ?hr ?hp (fun _ hk => hk) trivial (Below.refl _ _) (Nat.le_refl _) (by simp) ?_; (case hd => rfl); (case hg => rfl); (case hr => first | (go_simp; done) | (go_simp; rfl)); (case hp => exact (Reps.c2 (show Kd.M k52 _ _ _ (⟨1, v1 ++ v2 ++ v3⟩ : S52) [.int .i64 1, .string (v1 ++ v2 ++ v3)] from (k52_mkM _ _ _ (⟨1, v1 ++ v2 ++ v3⟩ : S52))) (Reps.c2 (show Kd.M k52 _ _ _ (⟨2, pl⟩ : S52) [.int .i64 2, .string pl] from (k52_mkM _ _ _ (⟨2, pl⟩ : S52))) (Reps.none _ _)))); intro v231 w36 ho37 hb36 hg_ hnew_; clear hg_ hnew_; rw [← Ny.out] at ho37; have HB36 := Lib.hid (below_step BX_.out.2 hb36); obtain ⟨Ao, co, eo⟩ := Kd.R_slice ho37; subst eo; have HRo := Lib.hid ho37; clear ho37 hb36) | (go_at_call 30; (with_reducible refine (frame_Put.calls (⟨#[68, 73, 79, 80]⟩ : ByteArray) 2 _ _ y rb re _ ?side1 ?side2 HRES2.out).mono ?_); (case side1 => exact (Kd.R_reads' HRo.out).2.2); (case side2 => exact (Kd.R_reads' HRo.out).2.1); rintro e w39 ⟨rfl, hb39⟩))
       go_ret2
       exact ⟨rfl, below_step HB36.out hb39⟩
    ·skip
     go_simp
     have BY := box57 BX_ (below_alloc (Below.refl _ W1) (.cells #[.int .u8 1] 5))
     have CX := Lib.hid (one_C (heap_alloc_new W1 (.cells #[.int .u8 1] 5)))
     generalize W1.alloc (.cells #[.int .u8 1] 5) = w_46 at BY CX ⊢
     obtain ⟨d0, d1, d2, _, _⟩ := cells57 BY
     refine hK.out _ _ ⟨d0, d1, d2⟩ (fun hHeld => ?_)
     clear hK K d0 d1 d2 BX_
     have BX_ := BY
     clear BY
     (try simp only [Act.put, zq1, zq2, zq3, zq4, zq5, zq6])
     refine wpAnyH_ready (rs := [2, 12]) (by kernel_rfl) (by simp) ?_
     refine AllReadyH.cons (o := _) rfl (fun K hK => ?_) (AllReadyH.cons (o := _) rfl (fun K hK => ?_) AllReadyH.nil)
     ·skip
      go_simp
      go_at_call 24
      refine (crc_Put.calls sum v1 _ HV1.out).mono ?_
      rintro e w_47 ⟨rfl, hb_⟩
      have BY := box57 BX_ hb_
      have CX2 := Lib.hid (Kd.C_below CX.out hb_)
      clear CX
      have CX := CX2
      clear CX2
      obtain ⟨d0, d1, d2, _, _⟩ := cells57 BY
      refine hK.out _ _ ⟨d0, d1, d2⟩ (fun hHeld => ?_)
      clear hK K d0 d1 d2 BX_
      have BX_ := BY
      clear BY
      (try simp only [Act.put, zq1, zq2, zq3, zq4, zq5, zq6])
      refine wpAnyH_ready (rs := [6, 12]) (by kernel_rfl) (by simp) ?_
      refine AllReadyH.cons (o := _) rfl (fun K hK => ?_) (AllReadyH.cons (o := _) rfl (fun K hK => ?_) AllReadyH.nil)
      ·skip
       go_simp
       go_at_call 24
       refine (crc_Put.calls len v2 _ HV2.out).mono ?_
       rintro e w_48 ⟨rfl, hb_⟩
       have BY := box57 BX_ hb_
       have CX2 := Lib.hid (Kd.C_below CX.out hb_)
       clear CX
       have CX := CX2
       clear CX2
       obtain ⟨d0, d1, d2, _, _⟩ := cells57 BY
       refine hK.out _ _ ⟨d0, d1, d2⟩ (fun hHeld => ?_)
       clear hK K d0 d1 d2 BX_
       have BX_ := BY
       clear BY
       (try simp only [Act.put, zq1, zq2, zq3, zq4, zq5, zq6])
       refine tkz 7 rfl ?_ (.inl ⟨by rfl, ?_⟩) ?_
       rotate_left 1
       ·intro w hSw
        obtain ⟨s0, s1, s2⟩ := hSw
        go_simp
        (try with_reducible rfl)
       (try simp only [Act.put, zq1, zq2, zq3, zq4, zq5, zq6])
       refine wpAnyH_ready (rs := [12]) (by kernel_rfl) (by simp) ?_
       refine AllReadyH.cons (o := _) rfl (fun K hK => ?_) AllReadyH.nil
       have cv := Kd.C_string (P := Try.prog) (src := 72) (dst := 9) (e := 5) (c := 1) Try.underlying72 Try.underlying5 Try.underlying9 CX.out
       rw [← HV3.out] at cv
       go_simp
       have BY := BX_
       clear cv
       obtain ⟨d0, d1, d2, _, _⟩ := cells57 BY
       refine hK.out _ _ ⟨d0, d1, d2⟩ (fun hHeld => ?_)
       clear hK K d0 d1 d2 BX_
       have BX_ := BY
       clear BY
       (try simp only [Act.put, zq1, zq2, zq3, zq4, zq5, zq6])
       refine tkz 13 rfl ?_ (.inl ⟨by rfl, ?_⟩) ?_
       rotate_left 1
       ·intro w hSw
        obtain ⟨s0, s1, s2⟩ := hSw
        go_simp
        (try with_reducible rfl)
       (try simp only [Act.put, zq1, zq2, zq3, zq4, zq5, zq6])
       refine tkz 14 rfl ?_ (.inl ⟨by rfl, ?_⟩) ?_
       rotate_left 1
       ·intro w hSw
        obtain ⟨s0, s1, s2⟩ := hSw
        go_simp
        (try with_reducible rfl)
       (try simp only [Act.put, zq1, zq2, zq3, zq4, zq5, zq6])
       refine wpAnyH_done (by kernel_rfl) ?_ _
       skip
       obtain ⟨y, hy⟩ : ∃ y : List S52, y = [(⟨1, v1 ++ v2 ++ v3⟩ : S52), (⟨2, pl⟩ : S52)] := ⟨_, rfl⟩
       have HRES2 : Hid (frame_Put.f (⟨#[68, 73, 79, 80]⟩ : ByteArray) 2 y = some (rb, re)) := by rw [hy, ← HFI.out]; exact HRES
       have Ny := Lib.hid hy
       clear hy
       go_wp2_with (first | ((with_reducible refine gate_dst (N := 89) rfl ?_); refine Kd.R_lit k52 _ 52 ?hg (N := 89) ?hd (xs := ([(⟨1, v1 ++ v2 ++ v3⟩ : S52), (⟨2, pl⟩ : S52)] : List S52)) (inner := [.int .i64 1, .string (v1 ++ v2 ++ v3), .int .i64 2, .string pl]) (ok := fun _ => True) (okp := fun _ => True) ?hr ?hp (fun _ hk => hk) trivial (Below.refl _ _) (Nat.le_refl _) (by simp) ?_; (case hd => rfl); (case hg => rfl); (case hr => first | (go_simp; done) | (go_simp; rfl)); (case hp => exact (Reps.c2 (show Kd.M k52 _ _ _ (⟨1, v1 ++ v2 ++ v3⟩ : S52) [.int .i64 1, .string (v1 ++ v2 ++ v3)] from (k52_mkM _ _ _ (⟨1, v1 ++ v2 ++ v3⟩ : S52))) (Reps.c2 (show Kd.M k52 _ _ _ (⟨2, pl⟩ : S52) [.int .i64 2, .string pl] from (k52_mkM _ _ _ (⟨2, pl⟩ : S52))) (Reps.none _ _)))); intro v231 w36 ho37 hb36 hg_ hnew_; clear hg_ hnew_; rw [← Ny.out] at ho37; have HB36 := Lib.hid (below_step BX_.out.2 hb36); obtain ⟨Ao, co, eo⟩ := Kd.R_slice ho37; subst eo; have HRo := Lib.hid ho37; clear ho37 hb36) | (go_at_call 30; (with_reducible refine (frame_Put.calls (⟨#[68, 73, 79, 80]⟩ : ByteArray) 2 _ _ y rb re _ ?side1 ?side2 HRES2.out).mono ?_); (case side1 => exact (Kd.R_reads' HRo.out).2.2); (case side2 => exact (Kd.R_reads' HRo.out).2.1); rintro e w39 ⟨rfl, hb39⟩))
       go_ret2
       exact ⟨rfl, below_step HB36.out hb39⟩
      ·skip
       have cv := Kd.C_string (P := Try.prog) (src := 72) (dst := 9) (e := 5) (c := 1) Try.underlying72 Try.underlying5 Try.underlying9 CX.out
       rw [← HV3.out] at cv
       go_simp
       have BY := BX_
       clear cv
       obtain ⟨d0, d1, d2, _, _⟩ := cells57 BY
       refine hK.out _ _ ⟨d0, d1, d2⟩ (fun hHeld => ?_)
       clear hK K d0 d1 d2 BX_
       have BX_ := BY
       clear BY
       (try simp only [Act.put, zq1, zq2, zq3, zq4, zq5, zq6])
       refine wpAnyH_ready (rs := [6]) (by kernel_rfl) (by simp) ?_
       refine AllReadyH.cons (o := _) rfl (fun K hK => ?_) AllReadyH.nil
       go_simp
       go_at_call 24
       refine (crc_Put.calls len v2 _ HV2.out).mono ?_
       rintro e w_51 ⟨rfl, hb_⟩
       have BY := box57 BX_ hb_
       have CX2 := Lib.hid (Kd.C_below CX.out hb_)
       clear CX
       have CX := CX2
       clear CX2
       obtain ⟨d0, d1, d2, _, _⟩ := cells57 BY
       refine hK.out _ _ ⟨d0, d1, d2⟩ (fun hHeld => ?_)
       clear hK K d0 d1 d2 BX_
       have BX_ := BY
       clear BY
       (try simp only [Act.put, zq1, zq2, zq3, zq4, zq5, zq6])
       refine tkz 7 rfl ?_ (.inl ⟨by rfl, ?_⟩) ?_
       rotate_left 1
       ·intro w hSw
        obtain ⟨s0, s1, s2⟩ := hSw
        go_simp
        (try with_reducible rfl)
       (try simp only [Act.put, zq1, zq2, zq3, zq4, zq5, zq6])
       refine tkz 13 rfl ?_ (.inl ⟨by rfl, ?_⟩) ?_
       rotate_left 1
       ·intro w hSw
        obtain ⟨s0, s1, s2⟩ := hSw
        go_simp
        (try with_reducible rfl)
       (try simp only [Act.put, zq1, zq2, zq3, zq4, zq5, zq6])
       refine tkz 14 rfl ?_ (.inl ⟨by rfl, ?_⟩) ?_
       rotate_left 1
       ·intro w hSw
        obtain ⟨s0, s1, s2⟩ := hSw
        go_simp
        (try with_reducible rfl)
       (try simp only [Act.put, zq1, zq2, zq3, zq4, zq5, zq6])
       refine wpAnyH_done (by kernel_rfl) ?_ _
       skip
       obtain ⟨y, hy⟩ : ∃ y : List S52, y = [(⟨1, v1 ++ v2 ++ v3⟩ : S52), (⟨2, pl⟩ : S52)] := ⟨_, rfl⟩
       have HRES2 : Hid (frame_Put.f (⟨#[68, 73, 79, 80]⟩ : ByteArray) 2 y = some (rb, re)) := by rw [hy, ← HFI.out]; exact HRES
       have Ny := Lib.hid hy
       clear hy
       go_wp2_with (first | ((with_reducible refine gate_dst (N := 89) rfl ?_); refine Kd.R_lit k52 _ 52 ?hg (N := 89) ?hd (xs := ([(⟨1, v1 ++ v2 ++ v3⟩ : S52), (⟨2, pl⟩ : S52)] : List S52)) (inner := [.int .i64 1, .string (v1 ++ v2 ++ v3), .int .i64 2, .string pl]) (ok := fun _ => True) (okp := fun _ => True) ?hr ?hp (fun _ hk => hk) trivial (Below.refl _ _) (Nat.le_refl _) (by simp) ?_; (case hd => rfl); (case hg => rfl); (case hr => first | (go_simp; done) | (go_simp; rfl)); (case hp => exact (Reps.c2 (show Kd.M k52 _ _ _ (⟨1, v1 ++ v2 ++ v3⟩ : S52) [.int .i64 1, .string (v1 ++ v2 ++ v3)] from (k52_mkM _ _ _ (⟨1, v1 ++ v2 ++ v3⟩ : S52))) (Reps.c2 (show Kd.M k52 _ _ _ (⟨2, pl⟩ : S52) [.int .i64 2, .string pl] from (k52_mkM _ _ _ (⟨2, pl⟩ : S52))) (Reps.none _ _)))); intro v231 w36 ho37 hb36 hg_ hnew_; clear hg_ hnew_; rw [← Ny.out] at ho37; have HB36 := Lib.hid (below_step BX_.out.2 hb36); obtain ⟨Ao, co, eo⟩ := Kd.R_slice ho37; subst eo; have HRo := Lib.hid ho37; clear ho37 hb36) | (go_at_call 30; (with_reducible refine (frame_Put.calls (⟨#[68, 73, 79, 80]⟩ : ByteArray) 2 _ _ y rb re _ ?side1 ?side2 HRES2.out).mono ?_); (case side1 => exact (Kd.R_reads' HRo.out).2.2); (case side2 => exact (Kd.R_reads' HRo.out).2.1); rintro e w39 ⟨rfl, hb39⟩))
       go_ret2
       exact ⟨rfl, below_step HB36.out hb39⟩
     ·skip
      have cv := Kd.C_string (P := Try.prog) (src := 72) (dst := 9) (e := 5) (c := 1) Try.underlying72 Try.underlying5 Try.underlying9 CX.out
      rw [← HV3.out] at cv
      go_simp
      have BY := BX_
      clear cv
      obtain ⟨d0, d1, d2, _, _⟩ := cells57 BY
      refine hK.out _ _ ⟨d0, d1, d2⟩ (fun hHeld => ?_)
      clear hK K d0 d1 d2 BX_
      have BX_ := BY
      clear BY
      (try simp only [Act.put, zq1, zq2, zq3, zq4, zq5, zq6])
      refine wpAnyH_ready (rs := [2]) (by kernel_rfl) (by simp) ?_
      refine AllReadyH.cons (o := _) rfl (fun K hK => ?_) AllReadyH.nil
      go_simp
      go_at_call 24
      refine (crc_Put.calls sum v1 _ HV1.out).mono ?_
      rintro e w_53 ⟨rfl, hb_⟩
      have BY := box57 BX_ hb_
      have CX2 := Lib.hid (Kd.C_below CX.out hb_)
      clear CX
      have CX := CX2
      clear CX2
      obtain ⟨d0, d1, d2, _, _⟩ := cells57 BY
      refine hK.out _ _ ⟨d0, d1, d2⟩ (fun hHeld => ?_)
      clear hK K d0 d1 d2 BX_
      have BX_ := BY
      clear BY
      (try simp only [Act.put, zq1, zq2, zq3, zq4, zq5, zq6])
      refine wpAnyH_ready (rs := [6]) (by kernel_rfl) (by simp) ?_
      refine AllReadyH.cons (o := _) rfl (fun K hK => ?_) AllReadyH.nil
      go_simp
      go_at_call 24
      refine (crc_Put.calls len v2 _ HV2.out).mono ?_
      rintro e w_54 ⟨rfl, hb_⟩
      have BY := box57 BX_ hb_
      have CX2 := Lib.hid (Kd.C_below CX.out hb_)
      clear CX
      have CX := CX2
      clear CX2
      obtain ⟨d0, d1, d2, _, _⟩ := cells57 BY
      refine hK.out _ _ ⟨d0, d1, d2⟩ (fun hHeld => ?_)
      clear hK K d0 d1 d2 BX_
      have BX_ := BY
      clear BY
      (try simp only [Act.put, zq1, zq2, zq3, zq4, zq5, zq6])
      refine tkz 7 rfl ?_ (.inl ⟨by rfl, ?_⟩) ?_
      rotate_left 1
      ·intro w hSw
       obtain ⟨s0, s1, s2⟩ := hSw
       go_simp
       (try with_reducible rfl)
      (try simp only [Act.put, zq1, zq2, zq3, zq4, zq5, zq6])
      refine tkz 13 rfl ?_ (.inl ⟨by rfl, ?_⟩) ?_
      rotate_left 1
      ·intro w hSw
       obtain ⟨s0, s1, s2⟩ := hSw
       go_simp
       (try with_reducible rfl)
      (try simp only [Act.put, zq1, zq2, zq3, zq4, zq5, zq6])
      refine tkz 14 rfl ?_ (.inl ⟨by rfl, ?_⟩) ?_
      rotate_left 1
      ·intro w hSw
       obtain ⟨s0, s1, s2⟩ := hSw
       go_simp
       (try with_reducible rfl)
      (try simp only [Act.put, zq1, zq2, zq3, zq4, zq5, zq6])
      refine wpAnyH_done (by kernel_rfl) ?_ _
      skip
      obtain ⟨y, hy⟩ : ∃ y : List S52, y = [(⟨1, v1 ++ v2 ++ v3⟩ : S52), (⟨2, pl⟩ : S52)] := ⟨_, rfl⟩
      have HRES2 : Hid (frame_Put.f (⟨#[68, 73, 79, 80]⟩ : ByteArray) 2 y = some (rb, re)) := by rw [hy, ← HFI.out]; exact HRES
      have Ny := Lib.hid hy
      clear hy
      go_wp2_with (first | ((with_reducible refine gate_dst (N := 89) rfl ?_); refine Kd.R_lit k52 _ 52 ?hg (N := 89) ?hd (xs := ([(⟨1, v1 ++ v2 ++ v3⟩ : S52), (⟨2, pl⟩ : S52)] : List S52)) (inner := [.int .i64 1, .string (v1 ++ v2 ++ v3), .int .i64 2, .string pl]) (ok := fun _ => True) (okp := fun _ => True) ?hr ?hp (fun _ hk => hk) trivial (Below.refl _ _) (Nat.le_refl _) (by simp) ?_; (case hd => rfl); (case hg => rfl); (case hr => first | (go_simp; done) | (go_simp; rfl)); (case hp => exact (Reps.c2 (show Kd.M k52 _ _ _ (⟨1, v1 ++ v2 ++ v3⟩ : S52) [.int .i64 1, .string (v1 ++ v2 ++ v3)] from (k52_mkM _ _ _ (⟨1, v1 ++ v2 ++ v3⟩ : S52))) (Reps.c2 (show Kd.M k52 _ _ _ (⟨2, pl⟩ : S52) [.int .i64 2, .string pl] from (k52_mkM _ _ _ (⟨2, pl⟩ : S52))) (Reps.none _ _)))); intro v231 w36 ho37 hb36 hg_ hnew_; clear hg_ hnew_; rw [← Ny.out] at ho37; have HB36 := Lib.hid (below_step BX_.out.2 hb36); obtain ⟨Ao, co, eo⟩ := Kd.R_slice ho37; subst eo; have HRo := Lib.hid ho37; clear ho37 hb36) | (go_at_call 30; (with_reducible refine (frame_Put.calls (⟨#[68, 73, 79, 80]⟩ : ByteArray) 2 _ _ y rb re _ ?side1 ?side2 HRES2.out).mono ?_); (case side1 => exact (Kd.R_reads' HRo.out).2.2); (case side2 => exact (Kd.R_reads' HRo.out).2.1); rintro e w39 ⟨rfl, hb39⟩))
      go_ret2
      exact ⟨rfl, below_step HB36.out hb39⟩
def patch_Put.f (sum len way : Int) (ops : List (S107)) (file : ByteArray) : Option (ByteArray × Int) :=
 if way < 0 ∨ 2 < way ∨ len < 0 ∨ 4294967295 < len then some (⟨#[]⟩, 1)
 else if 0 < ops.length ∧ way ≠ 1 then some (⟨#[]⟩, 1)
 else if file.toList.isEmpty = false ∧ way ≠ 2 then some (⟨#[]⟩, 1)
 else if way = 1 then (if 140737488355328 < (opsB ops).length + 10 then none else if opsNo ops = true then some (⟨#[]⟩, 21) else tailP sum len 1 ⟨(opsB ops).toArray⟩)
 else tailP sum len way file
theorem patch_Put.calls (sum len way : Int) (A3 : Option Addr) (c3 : Nat) (ops : List (S107)) (file : ByteArray) (r1 : ByteArray) (r2 : Int) (w : World) (hr3 : Kd.C k107 w A3 ops.length ops) (hc3 : ops.length ≤ c3) (h : patch_Put.f sum len way ops file = some (r1, r2)) :
  Calls Try.prog 37 #[.agg #[.int .u32 sum, .int .i64 len, .int .i64 way, .slice A3 ops.length c3, .string file]] w fun e w' => e = .returned (.tuple #[.string r1, .int .i64 r2]) ∧ Below w.heap.size w w' := by
 unfold patch_Put.f at h
 by_cases hw0 : way < 0
 ·rw [if_pos (.inl hw0)] at h; cases h; exact put_way0 sum len way A3 c3 ops file w hw0
 by_cases hw2 : 2 < way
 ·rw [if_pos (.inr (.inl hw2))] at h; cases h; exact put_way3 sum len way A3 c3 ops file w hw2
 by_cases hl0 : len < 0
 ·rw [if_pos (.inr (.inr (.inl hl0)))] at h; cases h; exact put_len0 sum len way A3 c3 ops file w (by omega) hl0
 by_cases hl1 : 4294967295 < len
 ·rw [if_pos (.inr (.inr (.inr hl1)))] at h; cases h; exact put_lenm sum len way A3 c3 ops file w (by omega) hl1
 rw [if_neg (by omega)] at h
 by_cases ho : 0 < ops.length
 ·by_cases h1 : way = 1
  ·subst h1
   rw [if_neg (by omega)] at h
   cases hf : file.toList.isEmpty with
   | false => rw [hf, if_pos ⟨rfl, by decide⟩] at h; cases h; exact put_filem1 sum len 1 A3 c3 ops file w (by omega) (by omega) ho rfl hf
   | true =>
    rw [hf, if_neg (by simp), if_pos rfl] at h
    by_cases hb : 140737488355328 < (opsB ops).length + 10
    ·rw [if_pos hb] at h; cases h
    ·rw [if_neg hb] at h
     cases hno : opsNo ops with
     | true => rw [hno, if_pos rfl] at h; cases h; exact put_ops21 sum len A3 c3 ops file w (by omega) hf hr3 (by omega) hno
     | false => rw [hno, if_neg Bool.false_ne_true] at h; exact put_ops sum len A3 c3 ops file w (by omega) hf hr3 (by omega) hno _ _ h
  ·rw [if_pos ⟨ho, h1⟩] at h; cases h; exact put_opsm sum len way A3 c3 ops file w (by omega) (by omega) ho h1
 ·obtain rfl : ops = [] := List.eq_nil_of_length_eq_zero (by omega)
  rw [if_neg (fun h_ => ho h_.1)] at h
  cases hf : file.toList.isEmpty with
  | false =>
   by_cases h2 : way = 2
   ·rw [if_neg (fun h_ => h_.2 h2), if_neg (by omega)] at h
    exact put_file2 sum len way A3 c3 file w h2 (by omega) (by omega) hf _ _ h
   ·rw [hf, if_pos ⟨rfl, h2⟩] at h; cases h; exact put_filem sum len way A3 c3 file w (by omega) (by omega) hf h2
  | true =>
   rw [hf, if_neg (by simp)] at h
   by_cases h1 : way = 1
   ·subst h1
    rw [if_pos rfl] at h
    by_cases hb : 140737488355328 < (opsB []).length + 10
    ·rw [if_pos hb] at h; cases h
    ·rw [if_neg hb] at h
     cases hno : opsNo [] with
     | true => rw [hno, if_pos rfl] at h; cases h; exact put_ops21 sum len A3 c3 [] file w (by omega) hf hr3 (by omega) hno
     | false => rw [hno, if_neg Bool.false_ne_true] at h; exact put_ops sum len A3 c3 [] file w (by omega) hf hr3 (by omega) hno _ _ h
   ·rw [if_neg h1] at h; exact put_file0 sum len way A3 c3 file w (by omega) (by omega) h1 hf _ _ h
end Go.Proofs.Ytdjpelcdijpihaa.PrintF
