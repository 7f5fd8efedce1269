/- A part of the proof of the claim: what it uses of the text PrintG1 (printed by xprint.py). -/
import Derived.Test.YtdjpelcdijpihaaVZ
import Derived.Test.YtdjpelcdijpihaaShort
import Derived.Test.YtdjpelcdijpihaaVPrintF0
import Derived.Test.YtdjpelcdijpihaaVPrintF1
import Derived.Test.YtdjpelcdijpihaaVPrintF2
namespace Go.Proofs.Ytdjpelcdijpihaa.PrintF
open Go.Proofs.Ytdjpelcdijpihaa.Print
open Go.RowKit Go.Proofs.YtdjpelcdijpihaaW.PrintWords Go.Proofs.YtdjpelcdijpihaaW.PrintLast Go.Proofs.YtdjpelcdijpihaaW.PrintMore
attribute [local go_sem] max2_int min2_int max_two min_two
set_option linter.unusedVariables false
set_option linter.unusedSimpArgs false
theorem info2 : (Try.prog.info? 2).map (fun i => (i.zero, i.size, i.bytes)) = some (some (.int .i64 0), 1, 8) := by kernel_rfl
theorem info3 : (Try.prog.info? 3).map (fun i => (i.zero, i.size, i.bytes)) = some (some (.int .i64 0), 1, 8) := by kernel_rfl
theorem info9 : (Try.prog.info? 9).map (fun i => (i.zero, i.size, i.bytes)) = some (some (.string ⟨#[]⟩), 1, 16) := by kernel_rfl
theorem info138 : (Try.prog.info? 138).map (fun i => (i.zero, i.size, i.bytes)) = some (some (.agg #[(.int .i64 0), (.int .i64 0)]), 2, 16) := by kernel_rfl
theorem eqA127 (d : Nat) (w : World) (x0 y0 : Bool) (x1 y1 : Int) (x2 y2 : Int) (x3 y3 : ByteArray) :
  (Op.equalIn (d + 2) 127 (.agg #[.bool x0, .int .i64 x1, .int .i64 x2, .string x3]) (.agg #[.bool y0, .int .i64 y1, .int .i64 y2, .string y3])).run Try.prog w = .ok (x0 == y0 && (x1 == y1 && (x2 == y2 && (x3.toList == y3.toList)))) w := by
 refine eqA_of Try.underlying127 (by kernel_rfl) ?_
 refine eqf_cons (by rfl) (by go_simp; rfl) (by go_simp; rfl) (by go_simp) ?_
 refine eqf_cons (by rfl) (by go_simp; rfl) (by go_simp; rfl) (by go_simp) ?_
 refine eqf_cons (by rfl) (by go_simp; rfl) (by go_simp; rfl) (by go_simp) ?_
 exact eqf_last (by rfl) (by go_simp; rfl) (by go_simp; rfl) (by go_simp)
theorem eqA138 (d : Nat) (w : World) (x0 y0 : Int) (x1 y1 : Int) :
  (Op.equalIn (d + 2) 138 (.agg #[.int .i64 x0, .int .i64 x1]) (.agg #[.int .i64 y0, .int .i64 y1])).run Try.prog w = .ok (x0 == y0 && (x1 == y1)) w := by
 refine eqA_of Try.underlying138 (by kernel_rfl) ?_
 refine eqf_cons (by rfl) (by go_simp; rfl) (by go_simp; rfl) (by go_simp) ?_
 exact eqf_last (by rfl) (by go_simp; rfl) (by go_simp; rfl) (by go_simp)
def varint_Zag.f (a0 : Int) : Option (Int) := some (Go.bits .xor .i64 (wrap64 (a0 / 2)) (wrap64 (-(wrap64 (Go.bits .and .u64 a0 1)))))
set_option maxHeartbeats 8000000 in
set_option maxRecDepth 100000 in
theorem varint_Zag.calls (a0 : Int) (r : Int) (w : World) (h : varint_Zag.f a0 = some r) :
  Calls Try.prog 106 #[.int .u64 a0] w fun e w' => e = .returned (.int .i64 r) ∧ Drawn0 w w' := by
 have H : (some (Go.bits .xor .i64 (wrap64 (a0 / 2)) (wrap64 (-(wrap64 (Go.bits .and .u64 a0 1)))))) = some r := h
 clear h
 obtain rfl := Option.some.inj H
 go_enter Try.func106, Try.ntmps106
 go_wp2
 go_ret
 exact ⟨by first | rfl | (simp; done) | (simp [*]; done), by repeat (first | exact Drawn0.refl _ | apply Drawn0.step)⟩
def cursor_Cursor_Int.f (k : Nat) (s0_0 : ByteArray) (s0_1 : Int) (s0_2 : Option Int) : Option (Int × ByteArray × Int × Option Int) := (cursor_Cursor_number.f k s0_0 s0_1 s0_2).bind fun bt109 => (if bt109.2.2.2.2.isNone = true then ((varint_Zag.f bt109.1).bind fun t115 => (some (t115, bt109.2.2.1, bt109.2.1, none))) else (some (0, bt109.2.2.1, bt109.2.2.2.1, some (bt109.2.2.2.2.getD 0))))
set_option maxHeartbeats 8000000 in
set_option maxRecDepth 100000 in
theorem cursor_Cursor_Int.calls (k : Nat) (g : Nat) (s0_0 : ByteArray) (s0_1 : Int) (s0_2 : Option Int) (r1 : Int) (r2 : ByteArray) (r3 : Int) (r4 : Option Int) (w0 w : World) (hI : IsS122 w0 w g s0_0 s0_1 s0_2) (hB : Below w0.heap.size w0 w) (h : cursor_Cursor_Int.f k s0_0 s0_1 s0_2 = some (r1, r2, r3, r4)) :
  Calls Try.prog 88 #[.pointer (some ⟨g, 0, none⟩)] w fun e w' => e = .returned (.int .i64 r1) ∧ IsS122 w0 w' g r2 r3 r4 ∧ Below w0.heap.size w0 w' ∧ KeepBut w w' g none := by
 have hu77 := Try.underlying77
 have hu123 := Try.underlying123
 have HI0 := Aside0.mk hI
 have HK := Aside0.mk (KeepBut.refl w g none)
 have HL := Aside0.mk hB.size
 clear hI
 have HW0 := Aside0.mk hB.size
 have HB := Aside0.mk hB
 clear hB
 have H : ((cursor_Cursor_number.f k s0_0 s0_1 s0_2).bind fun bt109 => (if bt109.2.2.2.2.isNone = true then ((varint_Zag.f bt109.1).bind fun t115 => (some (t115, bt109.2.2.1, bt109.2.1, none))) else (some (0, bt109.2.2.1, bt109.2.2.2.1, some (bt109.2.2.2.2.getD 0))))) = some (r1, r2, r3, r4) := h
 clear h
 replace H := Option.bind_eq_some_iff.mp H
 obtain ⟨⟨t109, t110, t111, t112, t113⟩, A20, H⟩ := H
 replace H : (if t113.isNone = true then ((varint_Zag.f t109).bind fun t115 => (some (t115, t111, t110, none))) else (some (0, t111, t112, some (t113.getD 0)))) = some (r1, r2, r3, r4) := H
 have A2 := Aside0.mk A20
 clear A20
 rcases t113 with _ | q114
 ·have H1 : ((varint_Zag.f t109).bind fun t115 => (some (t115, t111, t110, none))) = some (r1, r2, r3, r4) := by rw [if_pos (show (none : Option Int).isNone = true by rfl)] at H; exact H
  clear H
  have H := H1
  clear H1
  try simp only [errW_none, errW_some]
  replace H := Option.bind_eq_some_iff.mp H
  obtain ⟨t115, A30, H⟩ := H
  replace H : (some (t115, t111, t110, none)) = some (r1, r2, r3, r4) := H
  have A3 := Aside0.mk A30
  clear A30
  simp only [Option.some.injEq, Prod.mk.injEq] at H
  obtain ⟨rfl, rfl, rfl, rfl⟩ := H
  go_enter Try.func88, Try.ntmps88
  go_wp2_with (first | ((with_reducible refine gate_callee (f := 100) rfl ?_); refine goesL_ (some 7) rfl rfl Try.func100 (by kernel_rfl) rfl #[.pointer (some ⟨g, 0, none⟩)] rfl zm ?_; (with_reducible refine (cursor_Cursor_number.calls k g s0_0 s0_1 s0_2 t109 t110 t111 t112 none w0 _ ?side1 ?side2 A2.out).mono ?_); (case side1 => exact zi2); (case side2 => exact zb); rintro e w4 ⟨rfl, hi, hb, hk⟩; refine ⟨_, rfl, ?_⟩; have n0_ := Aside0.mk (KeepBut.trans zk hk (.inl rfl)); have n1_ := Aside0.mk (hb); have n2_ := Aside0.mk (hi); clear HK; clear HB; clear HI0; have HK := n0_; have HB := n1_; have HI0 := n2_; clear n0_ n1_ n2_; (try clear hb); (try clear hb2); (try clear hk); (try clear hi); (try simp only [errW_none, errW_some]); obtain ⟨HGz5, hgz5⟩ := HI0.out; have hcz5_0 := cellS122_0 HGz5; have hcz5_1 := cellS122_1 HGz5; have hcz5_2 := cellS122_2 HGz5; (try simp only [errW_none, errW_some] at hcz5_2); have hfz5_0 := blk_frozen HGz5 0; have hfz5_1 := blk_frozen HGz5 1; have hfz5_2 := blk_frozen HGz5 2; clear HGz5 hgz5) | ((with_reducible refine gate_callee (f := 106) rfl ?_); refine goesL_ (some 20) rfl rfl Try.func106 (by kernel_rfl) rfl #[.int .u64 t109] rfl zm ?_; (with_reducible refine (varint_Zag.calls t109 t115 _ A3.out).mono ?_); rintro e w' ⟨rfl, ⟨nd, rfl⟩⟩; refine ⟨_, rfl, ?_⟩))
  go_ret
  exact ⟨ze, zi2, zb, zk⟩
 ·have H1 : (some (0, t111, t112, some q114)) = some (r1, r2, r3, r4) := by rw [if_neg (show ¬ (some q114).isNone = true by simp)] at H; exact H
  clear H
  have H := H1
  clear H1
  try simp only [errW_none, errW_some]
  simp only [Option.some.injEq, Prod.mk.injEq] at H
  obtain ⟨rfl, rfl, rfl, rfl⟩ := H
  go_enter Try.func88, Try.ntmps88
  go_wp2_with (first | ((with_reducible refine gate_callee (f := 100) rfl ?_); refine goesL_ (some 7) rfl rfl Try.func100 (by kernel_rfl) rfl #[.pointer (some ⟨g, 0, none⟩)] rfl zm ?_; (with_reducible refine (cursor_Cursor_number.calls k g s0_0 s0_1 s0_2 t109 t110 t111 t112 (some q114) w0 _ ?side1 ?side2 A2.out).mono ?_); (case side1 => exact zi2); (case side2 => exact zb); rintro e w6 ⟨rfl, hi, hb, hk⟩; refine ⟨_, rfl, ?_⟩; have n0_ := Aside0.mk (KeepBut.trans zk hk (.inl rfl)); have n1_ := Aside0.mk (hb); have n2_ := Aside0.mk (hi); clear HK; clear HB; clear HI0; have HK := n0_; have HB := n1_; have HI0 := n2_; clear n0_ n1_ n2_; (try clear hb); (try clear hb2); (try clear hk); (try clear hi); (try simp only [errW_none, errW_some]); obtain ⟨HGz7, hgz7⟩ := HI0.out; have hcz7_0 := cellS122_0 HGz7; have hcz7_1 := cellS122_1 HGz7; have hcz7_2 := cellS122_2 HGz7; (try simp only [errW_none, errW_some] at hcz7_2); have hfz7_0 := blk_frozen HGz7 0; have hfz7_1 := blk_frozen HGz7 1; have hfz7_2 := blk_frozen HGz7 2; clear HGz7 hgz7))
  go_ret
  exact ⟨ze, zi2, zb, zk⟩
def cursor_Cursor_Text.f (k : Nat) (s0_0 : ByteArray) (s0_1 : Int) (s0_2 : Option Int) (a1 : Int) : Option (ByteArray × ByteArray × Int × Option Int) := (cursor_Cursor_Uint.f k s0_0 s0_1 s0_2 (IntKind.u64.wrap (mx a1 0))).bind fun bt138 => ((cursor_Cursor_Bytes.f bt138.2.1 bt138.2.2.1 bt138.2.2.2 bt138.1).bind fun bt142 => (if bt142.2.2.2.isNone = true then (some (bt142.1, bt142.2.1, bt142.2.2.1, none)) else (some ((⟨#[]⟩ : ByteArray), bt142.2.1, s0_1, some (bt142.2.2.2.getD 0)))))
set_option maxHeartbeats 8000000 in
set_option maxRecDepth 100000 in
theorem cursor_Cursor_Text.calls (k : Nat) (g : Nat) (s0_0 : ByteArray) (s0_1 : Int) (s0_2 : Option Int) (a1 : Int) (r1 : ByteArray) (r2 : ByteArray) (r3 : Int) (r4 : Option Int) (w0 w : World) (hI : IsS122 w0 w g s0_0 s0_1 s0_2) (hB : Below w0.heap.size w0 w) (h : cursor_Cursor_Text.f k s0_0 s0_1 s0_2 a1 = some (r1, r2, r3, r4)) :
  Calls Try.prog 90 #[.pointer (some ⟨g, 0, none⟩), .int .i64 a1] w fun e w' => e = .returned (.string r1) ∧ IsS122 w0 w' g r2 r3 r4 ∧ Below w0.heap.size w0 w' ∧ KeepBut w w' g none := by
 have hu77 := Try.underlying77
 have hu123 := Try.underlying123
 have HI0 := Aside0.mk hI
 have HK := Aside0.mk (KeepBut.refl w g none)
 have HL := Aside0.mk hB.size
 clear hI
 have HW0 := Aside0.mk hB.size
 have HB := Aside0.mk hB
 clear hB
 have H : ((cursor_Cursor_Uint.f k s0_0 s0_1 s0_2 (IntKind.u64.wrap (mx a1 0))).bind fun bt138 => ((cursor_Cursor_Bytes.f bt138.2.1 bt138.2.2.1 bt138.2.2.2 bt138.1).bind fun bt142 => (if bt142.2.2.2.isNone = true then (some (bt142.1, bt142.2.1, bt142.2.2.1, none)) else (some ((⟨#[]⟩ : ByteArray), bt142.2.1, s0_1, some (bt142.2.2.2.getD 0)))))) = some (r1, r2, r3, r4) := h
 clear h
 obtain ⟨ji3, hji3⟩ : ∃ j_ : Int, (mx a1 0) = j_ := ⟨_, rfl⟩
 replace H : ((cursor_Cursor_Uint.f k s0_0 s0_1 s0_2 (IntKind.u64.wrap (ji3))).bind fun bt138 => ((cursor_Cursor_Bytes.f bt138.2.1 bt138.2.2.1 bt138.2.2.2 bt138.1).bind fun bt142 => (if bt142.2.2.2.isNone = true then (some (bt142.1, bt142.2.1, bt142.2.2.1, none)) else (some ((⟨#[]⟩ : ByteArray), bt142.2.1, s0_1, some (bt142.2.2.2.getD 0)))))) = some (r1, r2, r3, r4) := by first | (rw [hji3] at H; exact H) | (simp only [hji3] at H ⊢; exact H)
 (try (have hji3l : 0 ≤ ji3 := by (rw [← hji3]; unfold mx; (repeat' split) <;> omega)))
 (try (have hji3m : 0 ≤ ji3 := by omega))
 have hji3_ : (if a1 < 0 then 0 else a1) = ji3 := hji3
 replace H := Option.bind_eq_some_iff.mp H
 obtain ⟨⟨t138, t139, t140, t141⟩, A40, H⟩ := H
 replace H : ((cursor_Cursor_Bytes.f t139 t140 t141 t138).bind fun bt142 => (if bt142.2.2.2.isNone = true then (some (bt142.1, bt142.2.1, bt142.2.2.1, none)) else (some ((⟨#[]⟩ : ByteArray), bt142.2.1, s0_1, some (bt142.2.2.2.getD 0))))) = some (r1, r2, r3, r4) := H
 have A4 := Aside0.mk A40
 clear A40
 replace H := Option.bind_eq_some_iff.mp H
 obtain ⟨⟨t142, t143, t144, t145⟩, A50, H⟩ := H
 replace H : (if t145.isNone = true then (some (t142, t143, t144, none)) else (some ((⟨#[]⟩ : ByteArray), t143, s0_1, some (t145.getD 0)))) = some (r1, r2, r3, r4) := H
 have A5 := Aside0.mk A50
 clear A50
 rcases t145 with _ | q146
 ·have H1 : (some (t142, t143, t144, none)) = some (r1, r2, r3, r4) := by rw [if_pos (show (none : Option Int).isNone = true by rfl)] at H; exact H
  clear H
  have H := H1
  clear H1
  try simp only [errW_none, errW_some]
  simp only [Option.some.injEq, Prod.mk.injEq] at H
  obtain ⟨rfl, rfl, rfl, rfl⟩ := H
  obtain ⟨HGz6, hgz6⟩ := HI0.out
  have hcz6_0 := cellS122_0 HGz6
  have hcz6_1 := cellS122_1 HGz6
  have hcz6_2 := cellS122_2 HGz6; (try simp only [errW_none, errW_some] at hcz6_2)
  have hfz6_0 := blk_frozen HGz6 0
  have hfz6_1 := blk_frozen HGz6 1
  have hfz6_2 := blk_frozen HGz6 2
  clear HGz6 hgz6
  go_enter Try.func90, Try.ntmps90
  go_wp2_with (first | ((with_reducible refine gate_callee (f := 73) rfl ?_); refine goesL_ (some 16) rfl rfl Try.func73 (by kernel_rfl) rfl #[.pointer (some ⟨g, 0, none⟩), .int .u64 (IntKind.u64.wrap (ji3))] rfl (by (try simp only [List.map_toArray, List.map_cons, List.map_nil]); first | done | (simp only [hji3]; rfl) | rfl | (simp only [List.length_drop, List.length_take]; rfl)) ?_; (with_reducible refine (cursor_Cursor_Uint.calls k g s0_0 s0_1 s0_2 (IntKind.u64.wrap (ji3)) t138 t139 t140 t141 w0 _ ?side1 ?side2 A4.out).mono ?_); (case side1 => exact zi2); (case side2 => exact zb); rintro e w7 ⟨rfl, hi, hb, hk⟩; refine ⟨_, rfl, ?_⟩; have n0_ := Aside0.mk (KeepBut.trans zk hk (.inl rfl)); have n1_ := Aside0.mk (hb); have n2_ := Aside0.mk (hi); clear HK; clear HB; clear HI0; have HK := n0_; have HB := n1_; have HI0 := n2_; clear n0_ n1_ n2_; (try clear hb); (try clear hb2); (try clear hk); (try clear hi); (try simp only [errW_none, errW_some])) | ((with_reducible refine gate_callee (f := 65) rfl ?_); refine goesL_ (some 19) rfl rfl Try.func65 (by kernel_rfl) rfl #[.pointer (some ⟨g, 0, none⟩), .int .i64 t138] rfl zm ?_; (with_reducible refine (cursor_Cursor_Bytes.calls g t139 t140 t141 t138 t142 t143 t144 none w0 _ ?side1 ?side2 A5.out).mono ?_); (case side1 => exact zi2); (case side2 => exact zb); rintro e w8 ⟨rfl, hi, hb, hk⟩; refine ⟨_, rfl, ?_⟩; have n0_ := Aside0.mk (KeepBut.trans zk hk (.inl rfl)); have n1_ := Aside0.mk (hb); have n2_ := Aside0.mk (hi); clear HK; clear HB; clear HI0; have HK := n0_; have HB := n1_; have HI0 := n2_; clear n0_ n1_ n2_; (try clear hb); (try clear hb2); (try clear hk); (try clear hi); (try simp only [errW_none, errW_some]); obtain ⟨HGz9, hgz9⟩ := HI0.out; have hcz9_0 := cellS122_0 HGz9; have hcz9_1 := cellS122_1 HGz9; have hcz9_2 := cellS122_2 HGz9; (try simp only [errW_none, errW_some] at hcz9_2); have hfz9_0 := blk_frozen HGz9 0; have hfz9_1 := blk_frozen HGz9 1; have hfz9_2 := blk_frozen HGz9 2; clear HGz9 hgz9))
  go_ret
  exact ⟨by first | rfl | (simp [errW_none, errW_some] <;> rfl) | (simp only [← hji3]; first | rfl | (simp [errW_none, errW_some] <;> rfl)) | (simp [*, errW_none, errW_some] <;> rfl), zi2, zb, zk⟩
 ·have H1 : (some ((⟨#[]⟩ : ByteArray), t143, s0_1, some q146)) = some (r1, r2, r3, r4) := by rw [if_neg (show ¬ (some q146).isNone = true by simp)] at H; exact H
  clear H
  have H := H1
  clear H1
  try simp only [errW_none, errW_some]
  simp only [Option.some.injEq, Prod.mk.injEq] at H
  obtain ⟨rfl, rfl, rfl, rfl⟩ := H
  obtain ⟨HGz10, hgz10⟩ := HI0.out
  have hcz10_0 := cellS122_0 HGz10
  have hcz10_1 := cellS122_1 HGz10
  have hcz10_2 := cellS122_2 HGz10; (try simp only [errW_none, errW_some] at hcz10_2)
  have hfz10_0 := blk_frozen HGz10 0
  have hfz10_1 := blk_frozen HGz10 1
  have hfz10_2 := blk_frozen HGz10 2
  clear HGz10 hgz10
  go_enter Try.func90, Try.ntmps90
  go_wp2_with (first | ((with_reducible refine gate_callee (f := 73) rfl ?_); refine goesL_ (some 16) rfl rfl Try.func73 (by kernel_rfl) rfl #[.pointer (some ⟨g, 0, none⟩), .int .u64 (IntKind.u64.wrap (ji3))] rfl (by (try simp only [List.map_toArray, List.map_cons, List.map_nil]); first | done | (simp only [hji3]; rfl) | rfl | (simp only [List.length_drop, List.length_take]; rfl)) ?_; (with_reducible refine (cursor_Cursor_Uint.calls k g s0_0 s0_1 s0_2 (IntKind.u64.wrap (ji3)) t138 t139 t140 t141 w0 _ ?side1 ?side2 A4.out).mono ?_); (case side1 => exact zi2); (case side2 => exact zb); rintro e w11 ⟨rfl, hi, hb, hk⟩; refine ⟨_, rfl, ?_⟩; have n0_ := Aside0.mk (KeepBut.trans zk hk (.inl rfl)); have n1_ := Aside0.mk (hb); have n2_ := Aside0.mk (hi); clear HK; clear HB; clear HI0; have HK := n0_; have HB := n1_; have HI0 := n2_; clear n0_ n1_ n2_; (try clear hb); (try clear hb2); (try clear hk); (try clear hi); (try simp only [errW_none, errW_some])) | ((with_reducible refine gate_callee (f := 65) rfl ?_); refine goesL_ (some 19) rfl rfl Try.func65 (by kernel_rfl) rfl #[.pointer (some ⟨g, 0, none⟩), .int .i64 t138] rfl zm ?_; (with_reducible refine (cursor_Cursor_Bytes.calls g t139 t140 t141 t138 t142 t143 t144 (some q146) w0 _ ?side1 ?side2 A5.out).mono ?_); (case side1 => exact zi2); (case side2 => exact zb); rintro e w12 ⟨rfl, hi, hb, hk⟩; refine ⟨_, rfl, ?_⟩; have n0_ := Aside0.mk (KeepBut.trans zk hk (.inl rfl)); have n1_ := Aside0.mk (hb); have n2_ := Aside0.mk (hi); clear HK; clear HB; clear HI0; have HK := n0_; have HB := n1_; have HI0 := n2_; clear n0_ n1_ n2_; (try clear hb); (try clear hb2); (try clear hk); (try clear hi); (try simp only [errW_none, errW_some]); obtain ⟨HGz13, hgz13⟩ := HI0.out; have hcz13_0 := cellS122_0 HGz13; have hcz13_1 := cellS122_1 HGz13; have hcz13_2 := cellS122_2 HGz13; (try simp only [errW_none, errW_some] at hcz13_2); have hfz13_0 := blk_frozen HGz13 0; have hfz13_1 := blk_frozen HGz13 1; have hfz13_2 := blk_frozen HGz13 2; clear HGz13 hgz13))
  go_ret
  exact ⟨by first | rfl | (simp [errW_none, errW_some] <;> rfl) | (simp only [← hji3]; first | rfl | (simp [errW_none, errW_some] <;> rfl)) | (simp [*, errW_none, errW_some] <;> rfl), zi2, zb, zk⟩
def patch_set.j0 : Nat → ByteArray → Int → Option Int → Bool → Int → Int → ByteArray → Option (Bool × Int × Int × ByteArray × ByteArray × Int × Option Int)
 | 0, _, _, _, _, _, _, _ => none
 | k + 1, x1000, x1001, x1002, x153000, x153001, x153002, x153003 => (cursor_Cursor_Uint.f k x1000 x1001 x1002 16777216).bind fun bt156 => (if x153000 = true then ((cursor_Cursor_Text.f k bt156.2.1 bt156.2.2.1 bt156.2.2.2 16777216).bind fun bt160 => (some (x153000, bt156.1, x153002, bt160.1, bt160.2.1, bt160.2.2.1, bt160.2.2.2))) else ((cursor_Cursor_Int.f k bt156.2.1 bt156.2.2.1 bt156.2.2.2).bind fun bt164 => (some (x153000, bt156.1, bt164.1, x153003, bt164.2.1, bt164.2.2.1, bt164.2.2.2))))
def patch_set.f (k : Nat) (s0_0 : ByteArray) (s0_1 : Int) (s0_2 : Option Int) : Option (Bool × Int × Int × ByteArray × ByteArray × Int × Option Int) := (cursor_Cursor_Uint.f k s0_0 s0_1 s0_2 16777216).bind fun bt148 => (if bt148.1 > 1 then ((cursor_Cursor_Fail.f bt148.2.1 bt148.2.2.1 bt148.2.2.2 21).bind fun bt153 => (patch_set.j0 k bt153.1 bt153.2.1 bt153.2.2 (bt148.1 == 1) 0 0 (⟨#[]⟩ : ByteArray))) else (patch_set.j0 k bt148.2.1 bt148.2.2.1 bt148.2.2.2 (bt148.1 == 1) 0 0 (⟨#[]⟩ : ByteArray)))
set_option maxHeartbeats 8000000 in
set_option maxRecDepth 100000 in
theorem patch_set.calls (k : Nat) (g : Nat) (s0_0 : ByteArray) (s0_1 : Int) (s0_2 : Option Int) (r1 : Bool) (r2 : Int) (r3 : Int) (r4 : ByteArray) (r5 : ByteArray) (r6 : Int) (r7 : Option Int) (w0 w : World) (hI : IsS122 w0 w g s0_0 s0_1 s0_2) (hB : Below w0.heap.size w0 w) (h : patch_set.f k s0_0 s0_1 s0_2 = some (r1, r2, r3, r4, r5, r6, r7)) :
  Calls Try.prog 84 #[.pointer (some ⟨g, 0, none⟩)] w fun e w' => e = .returned (.agg #[.bool r1, .int .i64 r2, .int .i64 r3, .string r4]) ∧ IsS122 w0 w' g r5 r6 r7 ∧ Below w0.heap.size w0 w' ∧ KeepBut w w' g none := by
 have hu127 := Try.underlying127
 have HI0 := Aside0.mk hI
 have HK := Aside0.mk (KeepBut.refl w g none)
 have HL := Aside0.mk hB.size
 clear hI
 have HW0 := Aside0.mk hB.size
 have HB := Aside0.mk hB
 clear hB
 have H : ((cursor_Cursor_Uint.f k s0_0 s0_1 s0_2 16777216).bind fun bt148 => (if bt148.1 > 1 then ((cursor_Cursor_Fail.f bt148.2.1 bt148.2.2.1 bt148.2.2.2 21).bind fun bt153 => (patch_set.j0 k bt153.1 bt153.2.1 bt153.2.2 (bt148.1 == 1) 0 0 (⟨#[]⟩ : ByteArray))) else (patch_set.j0 k bt148.2.1 bt148.2.2.1 bt148.2.2.2 (bt148.1 == 1) 0 0 (⟨#[]⟩ : ByteArray)))) = some (r1, r2, r3, r4, r5, r6, r7) := h
 clear h
 replace H := Option.bind_eq_some_iff.mp H
 obtain ⟨⟨t148, t149, t150, t151⟩, A20, H⟩ := H
 replace H : (if t148 > 1 then ((cursor_Cursor_Fail.f t149 t150 t151 21).bind fun bt153 => (patch_set.j0 k bt153.1 bt153.2.1 bt153.2.2 (t148 == 1) 0 0 (⟨#[]⟩ : ByteArray))) else (patch_set.j0 k t149 t150 t151 (t148 == 1) 0 0 (⟨#[]⟩ : ByteArray))) = some (r1, r2, r3, r4, r5, r6, r7) := H
 have A2 := Aside0.mk A20
 clear A20
 have HC3 := Aside0.mk H
 clear H
 go_enter Try.func84, Try.ntmps84
 go_upto_if 11 with (first | ((with_reducible refine gate_dst (N := 2) rfl ?_); refine box_event ?hg (N := 2) ?hd (cs := #[.bool false, .int .i64 0, .int .i64 0, .string (⟨#[]⟩ : ByteArray)]) (t := 127) ?hr ?_; (case hd => rfl); (case hg => rfl); (case hr => first | (go_simp; done) | (go_simp; rfl)); intro gb147 hg w4 hbox hb; have n0_ := Aside0.mk (IsS122.below zi2 hb); have n1_ := Aside0.mk (KeepBut.trans zk (KeepBut.of_below hb g none) (.inl rfl)); have n2_ := Aside0.mk (below_step zb hb); have n3_ := Aside0.mk (hbox); have n4_ := Aside0.mk ((by rw [hg]; exact (keep_size (w := w) (g := g) (row := none) zk) : w.heap.size ≤ gb147)); have n5_ := Aside0.mk ((Nat.le_trans HW0.out (by rw [hg]; exact (keep_size (w := w) (g := g) (row := none) zk) : w.heap.size ≤ gb147) : w0.heap.size ≤ gb147)); have n6_ := Aside0.mk ((by rw [hg]; exact Nat.ne_of_lt (IsS122.lt (show IsS122 w0 _ g s0_0 s0_1 s0_2 from zi2)) : g ≠ gb147)); have n7_ := Aside0.mk ((by rw [hg]; exact Nat.ne_of_gt (IsS122.lt (show IsS122 w0 _ g s0_0 s0_1 s0_2 from zi2)) : gb147 ≠ g)); clear HI0; clear HK; clear HB; have HI0 := n0_; have HK := n1_; have HB := n2_; have BK147 := n3_; have GW147 := n4_; have GE147 := n5_; have NB0_147 := n6_; have NB147_0 := n7_; clear n0_ n1_ n2_ n3_ n4_ n5_ n6_ n7_; clear hb hbox hg) | ((with_reducible refine gate_callee (f := 73) rfl ?_); refine goesL_ (some 6) rfl rfl Try.func73 (by kernel_rfl) rfl #[.pointer (some ⟨g, 0, none⟩), .int .u64 16777216] rfl zm ?_; (with_reducible refine (cursor_Cursor_Uint.calls k g s0_0 s0_1 s0_2 16777216 t148 t149 t150 t151 w0 _ ?side1 ?side2 A2.out).mono ?_); (case side1 => exact zi2); (case side2 => exact zb); rintro e w5 ⟨rfl, hi, hb, hk⟩; refine ⟨_, rfl, ?_⟩; have n0_ := Aside0.mk (KeepBut.blk hk (g' := gb147) (o := .cells #[.bool false, .int .i64 0, .int .i64 0, .string (⟨#[]⟩ : ByteArray)] 127 (0, 0)) (by (with_reducible repeat (first | refine blk_drewN ?_ _ | refine blk_drew ?_ | refine blk_alloc ?_ _)); exact BK147.out) NB147_0.out (by simp)); have n1_ := Aside0.mk (KeepBut.trans zk hk (.inl rfl)); have n2_ := Aside0.mk (hb); have n3_ := Aside0.mk (hi); clear BK147; clear HK; clear HB; clear HI0; have BK147 := n0_; have HK := n1_; have HB := n2_; have HI0 := n3_; clear n0_ n1_ n2_ n3_; (try clear hb); (try clear hb2); (try clear hk); (try clear hi); (try simp only [errW_none, errW_some])) | ((with_reducible refine gate_dst (N := 4) rfl ?_); refine box_event ?hg (N := 4) ?hd (cs := #[.bool false, .int .i64 0, .int .i64 0, .string (⟨#[]⟩ : ByteArray)]) (t := 127) ?hr ?_; (case hd => rfl); (case hg => rfl); (case hr => first | (go_simp; done) | (go_simp; rfl)); intro gb152 hg w6 hbox hb; have n0_ := Aside0.mk (IsS122.below zi2 hb); have n1_ := Aside0.mk (blk_below (g := gb147) (o := .cells #[.bool false, .int .i64 0, .int .i64 0, .string (⟨#[]⟩ : ByteArray)] 127 (0, 0)) (by (with_reducible repeat (first | refine blk_drewN ?_ _ | refine blk_drew ?_ | refine blk_alloc ?_ _)); exact BK147.out) hb); have n2_ := Aside0.mk (KeepBut.trans zk (KeepBut.of_below hb g none) (.inl rfl)); have n3_ := Aside0.mk (below_step zb hb); have n4_ := Aside0.mk (hbox); have n5_ := Aside0.mk ((by rw [hg]; exact (keep_size (w := w) (g := g) (row := none) zk) : w.heap.size ≤ gb152)); have n6_ := Aside0.mk ((Nat.le_trans HW0.out (by rw [hg]; exact (keep_size (w := w) (g := g) (row := none) zk) : w.heap.size ≤ gb152) : w0.heap.size ≤ gb152)); have n7_ := Aside0.mk ((by rw [hg]; exact Nat.ne_of_lt (blk_lt (g := gb147) (o := .cells #[.bool false, .int .i64 0, .int .i64 0, .string (⟨#[]⟩ : ByteArray)] 127 (0, 0)) (by (with_reducible repeat (first | refine blk_drewN ?_ _ | refine blk_drew ?_ | refine blk_alloc ?_ _)); exact BK147.out)) : gb147 ≠ gb152)); have n8_ := Aside0.mk ((by rw [hg]; exact Nat.ne_of_gt (blk_lt (g := gb147) (o := .cells #[.bool false, .int .i64 0, .int .i64 0, .string (⟨#[]⟩ : ByteArray)] 127 (0, 0)) (by (with_reducible repeat (first | refine blk_drewN ?_ _ | refine blk_drew ?_ | refine blk_alloc ?_ _)); exact BK147.out)) : gb152 ≠ gb147)); have n9_ := Aside0.mk ((by rw [hg]; exact Nat.ne_of_lt (IsS122.lt (show IsS122 w0 _ g t149 t150 t151 from zi2)) : g ≠ gb152)); have n10_ := Aside0.mk ((by rw [hg]; exact Nat.ne_of_gt (IsS122.lt (show IsS122 w0 _ g t149 t150 t151 from zi2)) : gb152 ≠ g)); clear HI0; clear BK147; clear HK; clear HB; have HI0 := n0_; have BK147 := n1_; have HK := n2_; have HB := n3_; have BK152 := n4_; have GW152 := n5_; have GE152 := n6_; have NB147_152 := n7_; have NB152_147 := n8_; have NB0_152 := n9_; have NB152_0 := n10_; clear n0_ n1_ n2_ n3_ n4_ n5_ n6_ n7_ n8_ n9_ n10_; clear hb hbox hg; have hnb7 := NB152_147.out; have hnc7 := NB147_152.out; have hnb8 := NB152_0.out; have hnc8 := NB0_152.out; have hcz9_0 : w6.cell? ⟨gb152, 0, none⟩ = some (.bool false) := (blk_cell BK152.out 0).trans rfl; have hcz9_1 : w6.cell? ⟨gb152, 1, none⟩ = some (.int .i64 0) := (blk_cell BK152.out 1).trans rfl; have hcz9_2 : w6.cell? ⟨gb152, 2, none⟩ = some (.int .i64 0) := (blk_cell BK152.out 2).trans rfl; have hcz9_3 : w6.cell? ⟨gb152, 3, none⟩ = some (.string (⟨#[]⟩ : ByteArray)) := (blk_cell BK152.out 3).trans rfl; have hfz9_0 := blk_frozen BK152.out 0; have hfz9_1 := blk_frozen BK152.out 1; have hfz9_2 := blk_frozen BK152.out 2; have hfz9_3 := blk_frozen BK152.out 3))
 (try simp only [Act.put, zq1, zq2, zq3])
 go_cut [] (fun wc => ∃ (kq : Nat) (x1000_2 : ByteArray) (x1001_2 : Int) (x1002_2 : Option Int), Aside0 (patch_set.j0 kq x1000_2 x1001_2 x1002_2 (t148 == 1) 0 0 (⟨#[]⟩ : ByteArray) = some (r1, r2, r3, r4, r5, r6, r7)) ∧ Aside0 (kq ≤ k) ∧ Aside0 (wc.heap[gb147]? = some (.cells #[.bool false, .int .i64 0, .int .i64 0, .string (⟨#[]⟩ : ByteArray)] 127 (0, 0))) ∧ Aside0 (wc.heap[gb152]? = some (.cells #[.bool (t148 == 1), .int .i64 0, .int .i64 0, .string (⟨#[]⟩ : ByteArray)] 127 (0, 0))) ∧ Aside0 (IsS122 w0 wc g x1000_2 x1001_2 x1002_2) ∧ Aside0 (KeepBut w wc g none) ∧ Aside0 (Below w0.heap.size w0 wc))
 case first =>
  have H := HC3.out
  clear HC3
  by_cases c10 : t148 > 1
  ·rw [if_pos c10] at H
   have c10b0 : decide (1 < t148) = true := decide_eq_true c10
   clear c10
   (first | rw [c10b0] | (simp only [i64_w]; rw [c10b0]) | skip)
   replace H := Option.bind_eq_some_iff.mp H
   obtain ⟨⟨t153, t154, t155⟩, A110, H⟩ := H
   replace H : (patch_set.j0 k t153 t154 t155 (t148 == 1) 0 0 (⟨#[]⟩ : ByteArray)) = some (r1, r2, r3, r4, r5, r6, r7) := H
   have A11 := Aside0.mk A110
   clear A110
   have H' := Aside0.mk H
   clear H
   go_wp2_with (first | ((with_reducible refine gate_callee (f := 52) rfl ?_); refine goesL_ (some 13) rfl rfl Try.func52 (by kernel_rfl) rfl #[.pointer (some ⟨g, 0, none⟩), .int .i64 21] rfl zm ?_; (with_reducible refine (cursor_Cursor_Fail.calls g t149 t150 t151 21 t153 t154 t155 w0 _ ?side1 ?side2 A11.out).mono ?_); (case side1 => exact zi2); (case side2 => exact zb); rintro e w12 ⟨rfl, hi, hb, hk⟩; refine ⟨_, rfl, ?_⟩; have n0_ := Aside0.mk (KeepBut.blk hk (g' := gb147) (o := .cells #[.bool false, .int .i64 0, .int .i64 0, .string (⟨#[]⟩ : ByteArray)] 127 (0, 0)) (by (with_reducible repeat (first | refine blk_drewN ?_ _ | refine blk_drew ?_ | refine blk_alloc ?_ _)); refine blk_far ?_ NB147_152.out _; (with_reducible repeat (first | refine blk_drewN ?_ _ | refine blk_drew ?_ | refine blk_alloc ?_ _)); refine blk_far ?_ NB147_152.out _; (with_reducible repeat (first | refine blk_drewN ?_ _ | refine blk_drew ?_ | refine blk_alloc ?_ _)); refine blk_far ?_ NB147_152.out _; (with_reducible repeat (first | refine blk_drewN ?_ _ | refine blk_drew ?_ | refine blk_alloc ?_ _)); refine blk_far ?_ NB147_152.out _; (with_reducible repeat (first | refine blk_drewN ?_ _ | refine blk_drew ?_ | refine blk_alloc ?_ _)); exact BK147.out) NB147_0.out (by simp)); have n1_ := Aside0.mk (KeepBut.blk hk (g' := gb152) (o := .cells #[.bool (t148 == 1), .int .i64 0, .int .i64 0, .string (⟨#[]⟩ : ByteArray)] 127 (0, 0)) (by (with_reducible repeat (first | refine blk_drewN ?_ _ | refine blk_drew ?_ | refine blk_alloc ?_ _)); refine blk_put (cs := #[.bool (t148 == 1), .int .i64 0, .int .i64 0, .string (⟨#[]⟩ : ByteArray)]) ?_ 3 _ rfl; (with_reducible repeat (first | refine blk_drewN ?_ _ | refine blk_drew ?_ | refine blk_alloc ?_ _)); refine blk_put (cs := #[.bool (t148 == 1), .int .i64 0, .int .i64 0, .string (⟨#[]⟩ : ByteArray)]) ?_ 2 _ rfl; (with_reducible repeat (first | refine blk_drewN ?_ _ | refine blk_drew ?_ | refine blk_alloc ?_ _)); refine blk_put (cs := #[.bool (t148 == 1), .int .i64 0, .int .i64 0, .string (⟨#[]⟩ : ByteArray)]) ?_ 1 _ rfl; (with_reducible repeat (first | refine blk_drewN ?_ _ | refine blk_drew ?_ | refine blk_alloc ?_ _)); refine blk_put (cs := #[.bool false, .int .i64 0, .int .i64 0, .string (⟨#[]⟩ : ByteArray)]) ?_ 0 _ rfl; (with_reducible repeat (first | refine blk_drewN ?_ _ | refine blk_drew ?_ | refine blk_alloc ?_ _)); exact BK152.out) NB152_0.out (by simp)); have n2_ := Aside0.mk (KeepBut.trans zk hk (.inl rfl)); have n3_ := Aside0.mk (hb); have n4_ := Aside0.mk (hi); clear BK147; clear BK152; clear HK; clear HB; clear HI0; have BK147 := n0_; have BK152 := n1_; have HK := n2_; have HB := n3_; have HI0 := n4_; clear n0_ n1_ n2_ n3_ n4_; (try clear hb); (try clear hb2); (try clear hk); (try clear hi); (try simp only [errW_none, errW_some])))
   go_meet
   case rel => exact ⟨_, (t153), (t154), (t155), H', ⟨by first | omega | exact Nat.le_refl _⟩, ⟨by (with_reducible repeat (first | refine blk_drewN ?_ _ | refine blk_drew ?_ | refine blk_alloc ?_ _)); exact BK147.out⟩, ⟨by (with_reducible repeat (first | refine blk_drewN ?_ _ | refine blk_drew ?_ | refine blk_alloc ?_ _)); exact BK152.out⟩, ⟨zi2⟩, ⟨zk⟩, ⟨zb⟩⟩
  ·rw [if_neg c10] at H
   have c10b0 : decide (1 < t148) = false := decide_eq_false c10
   clear c10
   (first | rw [c10b0] | (simp only [i64_w]; rw [c10b0]) | skip)
   have H' := Aside0.mk H
   clear H
   go_wp2
   go_meet
   case rel => exact ⟨_, (t149), (t150), (t151), H', ⟨by first | omega | exact Nat.le_refl _⟩, ⟨by (with_reducible repeat (first | refine blk_drewN ?_ _ | refine blk_drew ?_ | refine blk_alloc ?_ _)); refine blk_far ?_ NB147_152.out _; (with_reducible repeat (first | refine blk_drewN ?_ _ | refine blk_drew ?_ | refine blk_alloc ?_ _)); refine blk_far ?_ NB147_152.out _; (with_reducible repeat (first | refine blk_drewN ?_ _ | refine blk_drew ?_ | refine blk_alloc ?_ _)); refine blk_far ?_ NB147_152.out _; (with_reducible repeat (first | refine blk_drewN ?_ _ | refine blk_drew ?_ | refine blk_alloc ?_ _)); refine blk_far ?_ NB147_152.out _; (with_reducible repeat (first | refine blk_drewN ?_ _ | refine blk_drew ?_ | refine blk_alloc ?_ _)); exact BK147.out⟩, ⟨by (with_reducible repeat (first | refine blk_drewN ?_ _ | refine blk_drew ?_ | refine blk_alloc ?_ _)); refine blk_put (cs := #[.bool (t148 == 1), .int .i64 0, .int .i64 0, .string (⟨#[]⟩ : ByteArray)]) ?_ 3 _ rfl; (with_reducible repeat (first | refine blk_drewN ?_ _ | refine blk_drew ?_ | refine blk_alloc ?_ _)); refine blk_put (cs := #[.bool (t148 == 1), .int .i64 0, .int .i64 0, .string (⟨#[]⟩ : ByteArray)]) ?_ 2 _ rfl; (with_reducible repeat (first | refine blk_drewN ?_ _ | refine blk_drew ?_ | refine blk_alloc ?_ _)); refine blk_put (cs := #[.bool (t148 == 1), .int .i64 0, .int .i64 0, .string (⟨#[]⟩ : ByteArray)]) ?_ 1 _ rfl; (with_reducible repeat (first | refine blk_drewN ?_ _ | refine blk_drew ?_ | refine blk_alloc ?_ _)); refine blk_put (cs := #[.bool false, .int .i64 0, .int .i64 0, .string (⟨#[]⟩ : ByteArray)]) ?_ 0 _ rfl; (with_reducible repeat (first | refine blk_drewN ?_ _ | refine blk_drew ?_ | refine blk_alloc ?_ _)); exact BK152.out⟩, ⟨zi2⟩, ⟨zk⟩, ⟨zb⟩⟩
 case rest =>
  clear HC3
  try clear c1
  try clear p2
  try clear c5
  try clear c7
  try clear c8
  try clear c10
  try clear c10b0
  try clear hcz9_0
  try clear hcz9_1
  try clear hcz9_2
  try clear hcz9_3
  try clear hfz9_0
  try clear hfz9_1
  try clear hfz9_2
  try clear hfz9_3
  obtain ⟨kq, x1000_2, x1001_2, x1002_2, HA, HJ2, BK147, BK152, HI0, HK, HB⟩ := hcut
  cases kq with
  | zero => exact absurd HA.out (by simp [patch_set.j0])
  | succ kj2 =>
   have H := HA.out
   clear HA
   simp only [patch_set.j0] at H
   replace H := Option.bind_eq_some_iff.mp H
   obtain ⟨⟨t156, t157, t158, t159⟩, A130, H⟩ := H
   replace H : (if (t148 == 1) = true then ((cursor_Cursor_Text.f kj2 t157 t158 t159 16777216).bind fun bt160 => (some ((t148 == 1), t156, 0, bt160.1, bt160.2.1, bt160.2.2.1, bt160.2.2.2))) else ((cursor_Cursor_Int.f kj2 t157 t158 t159).bind fun bt164 => (some ((t148 == 1), t156, bt164.1, (⟨#[]⟩ : ByteArray), bt164.2.1, bt164.2.2.1, bt164.2.2.2)))) = some (r1, r2, r3, r4, r5, r6, r7) := H
   have A13 := Aside0.mk A130
   clear A130
   by_cases c14 : (t148 == 1) = true
   ·rw [if_pos c14] at H
    have c14b0 : (t148 == 1) = true := c14
    (try (have c14b1 : decide (t148 = 1) = true := by simpa using c14))
    (try (have c14b2 : (t148 == 1) = true := by simpa using c14))
    clear c14
    replace H := Option.bind_eq_some_iff.mp H
    obtain ⟨⟨t160, t161, t162, t163⟩, A150, H⟩ := H
    replace H : (some ((t148 == 1), t156, 0, t160, t161, t162, t163)) = some (r1, r2, r3, r4, r5, r6, r7) := H
    have A15 := Aside0.mk A150
    clear A150
    simp only [Option.some.injEq, Prod.mk.injEq] at H
    obtain ⟨rfl, rfl, rfl, rfl, rfl, rfl, rfl⟩ := H
    go_wp2_with (first | ((with_reducible refine gate_callee (f := 73) rfl ?_); refine goesL_ (some 15) rfl rfl Try.func73 (by kernel_rfl) rfl #[.pointer (some ⟨g, 0, none⟩), .int .u64 16777216] rfl zm ?_; (with_reducible refine (cursor_Cursor_Uint.calls kj2 g x1000_2 x1001_2 x1002_2 16777216 t156 t157 t158 t159 w0 _ ?side1 ?side2 A13.out).mono ?_); (case side1 => exact zi2); (case side2 => exact zb); rintro e w16 ⟨rfl, hi, hb, hk⟩; refine ⟨_, rfl, ?_⟩; have n0_ := Aside0.mk (KeepBut.blk hk (g' := gb147) (o := .cells #[.bool false, .int .i64 0, .int .i64 0, .string (⟨#[]⟩ : ByteArray)] 127 (0, 0)) (by (with_reducible repeat (first | refine blk_drewN ?_ _ | refine blk_drew ?_ | refine blk_alloc ?_ _)); exact BK147.out) NB147_0.out (by simp)); have n1_ := Aside0.mk (KeepBut.blk hk (g' := gb152) (o := .cells #[.bool (t148 == 1), .int .i64 0, .int .i64 0, .string (⟨#[]⟩ : ByteArray)] 127 (0, 0)) (by (with_reducible repeat (first | refine blk_drewN ?_ _ | refine blk_drew ?_ | refine blk_alloc ?_ _)); exact BK152.out) NB152_0.out (by simp)); have n2_ := Aside0.mk (KeepBut.trans zk hk (.inl rfl)); have n3_ := Aside0.mk (hb); have n4_ := Aside0.mk (hi); clear BK147; clear BK152; clear HK; clear HB; clear HI0; have BK147 := n0_; have BK152 := n1_; have HK := n2_; have HB := n3_; have HI0 := n4_; clear n0_ n1_ n2_ n3_ n4_; (try clear hb); (try clear hb2); (try clear hk); (try clear hi); (try simp only [errW_none, errW_some]); have hnb17 := NB152_147.out; have hnc17 := NB147_152.out; have hnb18 := NB152_0.out; have hnc18 := NB0_152.out; have hcz19_0 : w16.cell? ⟨gb152, 0, none⟩ = some (.bool (t148 == 1)) := (blk_cell BK152.out 0).trans rfl; have hcz19_1 : w16.cell? ⟨gb152, 1, none⟩ = some (.int .i64 0) := (blk_cell BK152.out 1).trans rfl; have hcz19_2 : w16.cell? ⟨gb152, 2, none⟩ = some (.int .i64 0) := (blk_cell BK152.out 2).trans rfl; have hcz19_3 : w16.cell? ⟨gb152, 3, none⟩ = some (.string (⟨#[]⟩ : ByteArray)) := (blk_cell BK152.out 3).trans rfl; have hfz19_0 := blk_frozen BK152.out 0; have hfz19_1 := blk_frozen BK152.out 1; have hfz19_2 := blk_frozen BK152.out 2; have hfz19_3 := blk_frozen BK152.out 3) | ((with_reducible refine gate_callee (f := 90) rfl ?_); refine goesL_ (some 20) rfl rfl Try.func90 (by kernel_rfl) rfl #[.pointer (some ⟨g, 0, none⟩), .int .i64 16777216] rfl zm ?_; (with_reducible refine (cursor_Cursor_Text.calls kj2 g t157 t158 t159 16777216 t160 t161 t162 t163 w0 _ ?side1 ?side2 A15.out).mono ?_); (case side1 => exact zi2); (case side2 => exact zb); rintro e w20 ⟨rfl, hi, hb, hk⟩; refine ⟨_, rfl, ?_⟩; have n0_ := Aside0.mk (KeepBut.blk hk (g' := gb147) (o := .cells #[.bool false, .int .i64 0, .int .i64 0, .string (⟨#[]⟩ : ByteArray)] 127 (0, 0)) (by (with_reducible repeat (first | refine blk_drewN ?_ _ | refine blk_drew ?_ | refine blk_alloc ?_ _)); refine blk_far ?_ NB147_152.out _; (with_reducible repeat (first | refine blk_drewN ?_ _ | refine blk_drew ?_ | refine blk_alloc ?_ _)); exact BK147.out) NB147_0.out (by simp)); have n1_ := Aside0.mk (KeepBut.blk hk (g' := gb152) (o := .cells #[.bool (t148 == 1), .int .i64 t156, .int .i64 0, .string (⟨#[]⟩ : ByteArray)] 127 (0, 0)) (by (with_reducible repeat (first | refine blk_drewN ?_ _ | refine blk_drew ?_ | refine blk_alloc ?_ _)); refine blk_put (cs := #[.bool (t148 == 1), .int .i64 0, .int .i64 0, .string (⟨#[]⟩ : ByteArray)]) ?_ 1 _ rfl; (with_reducible repeat (first | refine blk_drewN ?_ _ | refine blk_drew ?_ | refine blk_alloc ?_ _)); exact BK152.out) NB152_0.out (by simp)); have n2_ := Aside0.mk (KeepBut.trans zk hk (.inl rfl)); have n3_ := Aside0.mk (hb); have n4_ := Aside0.mk (hi); clear BK147; clear BK152; clear HK; clear HB; clear HI0; have BK147 := n0_; have BK152 := n1_; have HK := n2_; have HB := n3_; have HI0 := n4_; clear n0_ n1_ n2_ n3_ n4_; (try clear hb); (try clear hb2); (try clear hk); (try clear hi); (try simp only [errW_none, errW_some]); have hcz21_0 : w20.cell? ⟨gb152, 0, none⟩ = some (.bool (t148 == 1)) := (blk_cell BK152.out 0).trans rfl; have hcz21_1 : w20.cell? ⟨gb152, 1, none⟩ = some (.int .i64 t156) := (blk_cell BK152.out 1).trans rfl; have hcz21_2 : w20.cell? ⟨gb152, 2, none⟩ = some (.int .i64 0) := (blk_cell BK152.out 2).trans rfl; have hcz21_3 : w20.cell? ⟨gb152, 3, none⟩ = some (.string (⟨#[]⟩ : ByteArray)) := (blk_cell BK152.out 3).trans rfl; have hfz21_0 := blk_frozen BK152.out 0; have hfz21_1 := blk_frozen BK152.out 1; have hfz21_2 := blk_frozen BK152.out 2; have hfz21_3 := blk_frozen BK152.out 3; have hnb22 := NB147_0.out; have hnc22 := NB0_147.out; have hcz23_0 : w20.cell? ⟨gb147, 0, none⟩ = some (.bool false) := (blk_cell BK147.out 0).trans rfl; have hcz23_1 : w20.cell? ⟨gb147, 1, none⟩ = some (.int .i64 0) := (blk_cell BK147.out 1).trans rfl; have hcz23_2 : w20.cell? ⟨gb147, 2, none⟩ = some (.int .i64 0) := (blk_cell BK147.out 2).trans rfl; have hcz23_3 : w20.cell? ⟨gb147, 3, none⟩ = some (.string (⟨#[]⟩ : ByteArray)) := (blk_cell BK147.out 3).trans rfl; have hfz23_0 := blk_frozen BK147.out 0; have hfz23_1 := blk_frozen BK147.out 1; have hfz23_2 := blk_frozen BK147.out 2; have hfz23_3 := blk_frozen BK147.out 3))
    refine bodyPost_ret (results_cell_row rfl _ _ gb147 127 #[.bool (t148 == 1), .int .i64 t156, .int .i64 0, .string t160] (0, 0) _ rfl (by (with_reducible repeat (first | refine blk_drewN ?_ _ | refine blk_drew ?_ | refine blk_alloc ?_ _)); refine blk_put (cs := #[.bool (t148 == 1), .int .i64 t156, .int .i64 0, .string (⟨#[]⟩ : ByteArray)]) ?_ 3 _ rfl; (with_reducible repeat (first | refine blk_drewN ?_ _ | refine blk_drew ?_ | refine blk_alloc ?_ _)); refine blk_put (cs := #[.bool (t148 == 1), .int .i64 t156, .int .i64 0, .string (⟨#[]⟩ : ByteArray)]) ?_ 2 _ rfl; (with_reducible repeat (first | refine blk_drewN ?_ _ | refine blk_drew ?_ | refine blk_alloc ?_ _)); refine blk_put (cs := #[.bool (t148 == 1), .int .i64 0, .int .i64 0, .string (⟨#[]⟩ : ByteArray)]) ?_ 1 _ rfl; (with_reducible repeat (first | refine blk_drewN ?_ _ | refine blk_drew ?_ | refine blk_alloc ?_ _)); refine blk_put (cs := #[.bool false, .int .i64 0, .int .i64 0, .string (⟨#[]⟩ : ByteArray)]) ?_ 0 _ (by first | rfl | (rw [c14b0]; rfl)); (with_reducible repeat (first | refine blk_drewN ?_ _ | refine blk_drew ?_ | refine blk_alloc ?_ _)); refine blk_far ?_ NB147_152.out _; (with_reducible repeat (first | refine blk_drewN ?_ _ | refine blk_drew ?_ | refine blk_alloc ?_ _)); exact BK147.out) Try.underlying127 rfl (by kernel_rfl)) rfl ?_
    exact ⟨ze, zi2, zb, zk⟩
   ·rw [if_neg c14] at H
    have c14b0 : (t148 == 1) = false := by simpa using c14
    (try (have c14b1 : decide (t148 = 1) = false := by simpa using c14))
    (try (have c14b2 : (t148 == 1) = false := by simpa using c14))
    (try (have c14b3 : ¬ (t148 = 1) := by simpa using c14))
    clear c14
    replace H := Option.bind_eq_some_iff.mp H
    obtain ⟨⟨t164, t165, t166, t167⟩, A240, H⟩ := H
    replace H : (some ((t148 == 1), t156, t164, (⟨#[]⟩ : ByteArray), t165, t166, t167)) = some (r1, r2, r3, r4, r5, r6, r7) := H
    have A24 := Aside0.mk A240
    clear A240
    simp only [Option.some.injEq, Prod.mk.injEq] at H
    obtain ⟨rfl, rfl, rfl, rfl, rfl, rfl, rfl⟩ := H
    go_wp2_with (first | ((with_reducible refine gate_callee (f := 73) rfl ?_); refine goesL_ (some 15) rfl rfl Try.func73 (by kernel_rfl) rfl #[.pointer (some ⟨g, 0, none⟩), .int .u64 16777216] rfl zm ?_; (with_reducible refine (cursor_Cursor_Uint.calls kj2 g x1000_2 x1001_2 x1002_2 16777216 t156 t157 t158 t159 w0 _ ?side1 ?side2 A13.out).mono ?_); (case side1 => exact zi2); (case side2 => exact zb); rintro e w25 ⟨rfl, hi, hb, hk⟩; refine ⟨_, rfl, ?_⟩; have n0_ := Aside0.mk (KeepBut.blk hk (g' := gb147) (o := .cells #[.bool false, .int .i64 0, .int .i64 0, .string (⟨#[]⟩ : ByteArray)] 127 (0, 0)) (by (with_reducible repeat (first | refine blk_drewN ?_ _ | refine blk_drew ?_ | refine blk_alloc ?_ _)); exact BK147.out) NB147_0.out (by simp)); have n1_ := Aside0.mk (KeepBut.blk hk (g' := gb152) (o := .cells #[.bool (t148 == 1), .int .i64 0, .int .i64 0, .string (⟨#[]⟩ : ByteArray)] 127 (0, 0)) (by (with_reducible repeat (first | refine blk_drewN ?_ _ | refine blk_drew ?_ | refine blk_alloc ?_ _)); exact BK152.out) NB152_0.out (by simp)); have n2_ := Aside0.mk (KeepBut.trans zk hk (.inl rfl)); have n3_ := Aside0.mk (hb); have n4_ := Aside0.mk (hi); clear BK147; clear BK152; clear HK; clear HB; clear HI0; have BK147 := n0_; have BK152 := n1_; have HK := n2_; have HB := n3_; have HI0 := n4_; clear n0_ n1_ n2_ n3_ n4_; (try clear hb); (try clear hb2); (try clear hk); (try clear hi); (try simp only [errW_none, errW_some]); have hnb26 := NB152_147.out; have hnc26 := NB147_152.out; have hnb27 := NB152_0.out; have hnc27 := NB0_152.out; have hcz28_0 : w25.cell? ⟨gb152, 0, none⟩ = some (.bool (t148 == 1)) := (blk_cell BK152.out 0).trans rfl; have hcz28_1 : w25.cell? ⟨gb152, 1, none⟩ = some (.int .i64 0) := (blk_cell BK152.out 1).trans rfl; have hcz28_2 : w25.cell? ⟨gb152, 2, none⟩ = some (.int .i64 0) := (blk_cell BK152.out 2).trans rfl; have hcz28_3 : w25.cell? ⟨gb152, 3, none⟩ = some (.string (⟨#[]⟩ : ByteArray)) := (blk_cell BK152.out 3).trans rfl; have hfz28_0 := blk_frozen BK152.out 0; have hfz28_1 := blk_frozen BK152.out 1; have hfz28_2 := blk_frozen BK152.out 2; have hfz28_3 := blk_frozen BK152.out 3) | ((with_reducible refine gate_callee (f := 88) rfl ?_); refine goesL_ (some 23) rfl rfl Try.func88 (by kernel_rfl) rfl #[.pointer (some ⟨g, 0, none⟩)] rfl zm ?_; (with_reducible refine (cursor_Cursor_Int.calls kj2 g t157 t158 t159 t164 t165 t166 t167 w0 _ ?side1 ?side2 A24.out).mono ?_); (case side1 => exact zi2); (case side2 => exact zb); rintro e w29 ⟨rfl, hi, hb, hk⟩; refine ⟨_, rfl, ?_⟩; have n0_ := Aside0.mk (KeepBut.blk hk (g' := gb147) (o := .cells #[.bool false, .int .i64 0, .int .i64 0, .string (⟨#[]⟩ : ByteArray)] 127 (0, 0)) (by (with_reducible repeat (first | refine blk_drewN ?_ _ | refine blk_drew ?_ | refine blk_alloc ?_ _)); refine blk_far ?_ NB147_152.out _; (with_reducible repeat (first | refine blk_drewN ?_ _ | refine blk_drew ?_ | refine blk_alloc ?_ _)); exact BK147.out) NB147_0.out (by simp)); have n1_ := Aside0.mk (KeepBut.blk hk (g' := gb152) (o := .cells #[.bool (t148 == 1), .int .i64 t156, .int .i64 0, .string (⟨#[]⟩ : ByteArray)] 127 (0, 0)) (by (with_reducible repeat (first | refine blk_drewN ?_ _ | refine blk_drew ?_ | refine blk_alloc ?_ _)); refine blk_put (cs := #[.bool (t148 == 1), .int .i64 0, .int .i64 0, .string (⟨#[]⟩ : ByteArray)]) ?_ 1 _ rfl; (with_reducible repeat (first | refine blk_drewN ?_ _ | refine blk_drew ?_ | refine blk_alloc ?_ _)); exact BK152.out) NB152_0.out (by simp)); have n2_ := Aside0.mk (KeepBut.trans zk hk (.inl rfl)); have n3_ := Aside0.mk (hb); have n4_ := Aside0.mk (hi); clear BK147; clear BK152; clear HK; clear HB; clear HI0; have BK147 := n0_; have BK152 := n1_; have HK := n2_; have HB := n3_; have HI0 := n4_; clear n0_ n1_ n2_ n3_ n4_; (try clear hb); (try clear hb2); (try clear hk); (try clear hi); (try simp only [errW_none, errW_some]); have hcz30_0 : w29.cell? ⟨gb152, 0, none⟩ = some (.bool (t148 == 1)) := (blk_cell BK152.out 0).trans rfl; have hcz30_1 : w29.cell? ⟨gb152, 1, none⟩ = some (.int .i64 t156) := (blk_cell BK152.out 1).trans rfl; have hcz30_2 : w29.cell? ⟨gb152, 2, none⟩ = some (.int .i64 0) := (blk_cell BK152.out 2).trans rfl; have hcz30_3 : w29.cell? ⟨gb152, 3, none⟩ = some (.string (⟨#[]⟩ : ByteArray)) := (blk_cell BK152.out 3).trans rfl; have hfz30_0 := blk_frozen BK152.out 0; have hfz30_1 := blk_frozen BK152.out 1; have hfz30_2 := blk_frozen BK152.out 2; have hfz30_3 := blk_frozen BK152.out 3; have hnb31 := NB147_0.out; have hnc31 := NB0_147.out; have hcz32_0 : w29.cell? ⟨gb147, 0, none⟩ = some (.bool false) := (blk_cell BK147.out 0).trans rfl; have hcz32_1 : w29.cell? ⟨gb147, 1, none⟩ = some (.int .i64 0) := (blk_cell BK147.out 1).trans rfl; have hcz32_2 : w29.cell? ⟨gb147, 2, none⟩ = some (.int .i64 0) := (blk_cell BK147.out 2).trans rfl; have hcz32_3 : w29.cell? ⟨gb147, 3, none⟩ = some (.string (⟨#[]⟩ : ByteArray)) := (blk_cell BK147.out 3).trans rfl; have hfz32_0 := blk_frozen BK147.out 0; have hfz32_1 := blk_frozen BK147.out 1; have hfz32_2 := blk_frozen BK147.out 2; have hfz32_3 := blk_frozen BK147.out 3))
    refine bodyPost_ret (results_cell_row rfl _ _ gb147 127 #[.bool (t148 == 1), .int .i64 t156, .int .i64 t164, .string (⟨#[]⟩ : ByteArray)] (0, 0) _ rfl (by (with_reducible repeat (first | refine blk_drewN ?_ _ | refine blk_drew ?_ | refine blk_alloc ?_ _)); refine blk_put (cs := #[.bool (t148 == 1), .int .i64 t156, .int .i64 t164, .string (⟨#[]⟩ : ByteArray)]) ?_ 3 _ rfl; (with_reducible repeat (first | refine blk_drewN ?_ _ | refine blk_drew ?_ | refine blk_alloc ?_ _)); refine blk_put (cs := #[.bool (t148 == 1), .int .i64 t156, .int .i64 0, .string (⟨#[]⟩ : ByteArray)]) ?_ 2 _ rfl; (with_reducible repeat (first | refine blk_drewN ?_ _ | refine blk_drew ?_ | refine blk_alloc ?_ _)); refine blk_put (cs := #[.bool (t148 == 1), .int .i64 0, .int .i64 0, .string (⟨#[]⟩ : ByteArray)]) ?_ 1 _ rfl; (with_reducible repeat (first | refine blk_drewN ?_ _ | refine blk_drew ?_ | refine blk_alloc ?_ _)); refine blk_put (cs := #[.bool false, .int .i64 0, .int .i64 0, .string (⟨#[]⟩ : ByteArray)]) ?_ 0 _ (by first | rfl | (rw [c14b0]; rfl)); (with_reducible repeat (first | refine blk_drewN ?_ _ | refine blk_drew ?_ | refine blk_alloc ?_ _)); refine blk_far ?_ NB147_152.out _; (with_reducible repeat (first | refine blk_drewN ?_ _ | refine blk_drew ?_ | refine blk_alloc ?_ _)); exact BK147.out) Try.underlying127 rfl (by kernel_rfl)) rfl ?_
    exact ⟨ze, zi2, zb, zk⟩
def patch_edit.j0 : Nat → Bool → ByteArray → Int → Option Int → Int → Int → Option (Int × Int × ByteArray × Int × Option Int)
 | 0, _, _, _, _, _, _ => none
 | k + 1, x14, x1000, x1001, x1002, x174000, x174001 => if x14 = true then ((cursor_Cursor_Fail.f x1000 x1001 x1002 21).bind fun bt174 => ((cursor_Cursor_Uint.f k bt174.1 bt174.2.1 bt174.2.2 16777216).bind fun bt177 => (some (x174000, bt177.1, bt177.2.1, bt177.2.2.1, bt177.2.2.2)))) else ((cursor_Cursor_Uint.f k x1000 x1001 x1002 16777216).bind fun bt181 => (some (x174000, bt181.1, bt181.2.1, bt181.2.2.1, bt181.2.2.2)))
def patch_edit.f (k : Nat) (s0_0 : ByteArray) (s0_1 : Int) (s0_2 : Option Int) : Option (Int × Int × ByteArray × Int × Option Int) := (cursor_Cursor_Uint.f k s0_0 s0_1 s0_2 16777216).bind fun bt169 => (if bt169.1 < 1 then (patch_edit.j0 k true bt169.2.1 bt169.2.2.1 bt169.2.2.2 bt169.1 0) else (patch_edit.j0 k (decide (bt169.1 > 3)) bt169.2.1 bt169.2.2.1 bt169.2.2.2 bt169.1 0))
set_option maxHeartbeats 8000000 in
set_option maxRecDepth 100000 in
theorem patch_edit.calls (k : Nat) (g : Nat) (s0_0 : ByteArray) (s0_1 : Int) (s0_2 : Option Int) (r1 : Int) (r2 : Int) (r3 : ByteArray) (r4 : Int) (r5 : Option Int) (w0 w : World) (hI : IsS122 w0 w g s0_0 s0_1 s0_2) (hB : Below w0.heap.size w0 w) (h : patch_edit.f k s0_0 s0_1 s0_2 = some (r1, r2, r3, r4, r5)) :
  Calls Try.prog 86 #[.pointer (some ⟨g, 0, none⟩)] w fun e w' => e = .returned (.agg #[.int .i64 r1, .int .i64 r2]) ∧ IsS122 w0 w' g r3 r4 r5 ∧ Below w0.heap.size w0 w' ∧ KeepBut w w' g none := by
 have hu138 := Try.underlying138
 have HI0 := Aside0.mk hI
 have HK := Aside0.mk (KeepBut.refl w g none)
 have HL := Aside0.mk hB.size
 clear hI
 have HW0 := Aside0.mk hB.size
 have HB := Aside0.mk hB
 clear hB
 have H : ((cursor_Cursor_Uint.f k s0_0 s0_1 s0_2 16777216).bind fun bt169 => (if bt169.1 < 1 then (patch_edit.j0 k true bt169.2.1 bt169.2.2.1 bt169.2.2.2 bt169.1 0) else (patch_edit.j0 k (decide (bt169.1 > 3)) bt169.2.1 bt169.2.2.1 bt169.2.2.2 bt169.1 0))) = some (r1, r2, r3, r4, r5) := h
 clear h
 replace H := Option.bind_eq_some_iff.mp H
 obtain ⟨⟨t169, t170, t171, t172⟩, A20, H⟩ := H
 replace H : (if t169 < 1 then (patch_edit.j0 k true t170 t171 t172 t169 0) else (patch_edit.j0 k (decide (t169 > 3)) t170 t171 t172 t169 0)) = some (r1, r2, r3, r4, r5) := H
 have A2 := Aside0.mk A20
 clear A20
 have HC3 := Aside0.mk H
 clear H
 go_enter Try.func86, Try.ntmps86
 go_upto_region 2 with (first | ((with_reducible refine gate_dst (N := 2) rfl ?_); refine box_event ?hg (N := 2) ?hd (cs := #[.int .i64 0, .int .i64 0]) (t := 138) ?hr ?_; (case hd => rfl); (case hg => rfl); (case hr => first | (go_simp; done) | (go_simp; rfl)); intro gb168 hg w4 hbox hb; have n0_ := Aside0.mk (IsS122.below zi2 hb); have n1_ := Aside0.mk (KeepBut.trans zk (KeepBut.of_below hb g none) (.inl rfl)); have n2_ := Aside0.mk (below_step zb hb); have n3_ := Aside0.mk (hbox); have n4_ := Aside0.mk ((by rw [hg]; exact (keep_size (w := w) (g := g) (row := none) zk) : w.heap.size ≤ gb168)); have n5_ := Aside0.mk ((Nat.le_trans HW0.out (by rw [hg]; exact (keep_size (w := w) (g := g) (row := none) zk) : w.heap.size ≤ gb168) : w0.heap.size ≤ gb168)); have n6_ := Aside0.mk ((by rw [hg]; exact Nat.ne_of_lt (IsS122.lt (show IsS122 w0 _ g s0_0 s0_1 s0_2 from zi2)) : g ≠ gb168)); have n7_ := Aside0.mk ((by rw [hg]; exact Nat.ne_of_gt (IsS122.lt (show IsS122 w0 _ g s0_0 s0_1 s0_2 from zi2)) : gb168 ≠ g)); clear HI0; clear HK; clear HB; have HI0 := n0_; have HK := n1_; have HB := n2_; have BK168 := n3_; have GW168 := n4_; have GE168 := n5_; have NB0_168 := n6_; have NB168_0 := n7_; clear n0_ n1_ n2_ n3_ n4_ n5_ n6_ n7_; clear hb hbox hg) | ((with_reducible refine gate_callee (f := 73) rfl ?_); refine goesL_ (some 5) rfl rfl Try.func73 (by kernel_rfl) rfl #[.pointer (some ⟨g, 0, none⟩), .int .u64 16777216] rfl zm ?_; (with_reducible refine (cursor_Cursor_Uint.calls k g s0_0 s0_1 s0_2 16777216 t169 t170 t171 t172 w0 _ ?side1 ?side2 A2.out).mono ?_); (case side1 => exact zi2); (case side2 => exact zb); rintro e w5 ⟨rfl, hi, hb, hk⟩; refine ⟨_, rfl, ?_⟩; have n0_ := Aside0.mk (KeepBut.blk hk (g' := gb168) (o := .cells #[.int .i64 0, .int .i64 0] 138 (0, 0)) (by (with_reducible repeat (first | refine blk_drewN ?_ _ | refine blk_drew ?_ | refine blk_alloc ?_ _)); exact BK168.out) NB168_0.out (by simp)); have n1_ := Aside0.mk (KeepBut.trans zk hk (.inl rfl)); have n2_ := Aside0.mk (hb); have n3_ := Aside0.mk (hi); clear BK168; clear HK; clear HB; clear HI0; have BK168 := n0_; have HK := n1_; have HB := n2_; have HI0 := n3_; clear n0_ n1_ n2_ n3_; (try clear hb); (try clear hb2); (try clear hk); (try clear hi); (try simp only [errW_none, errW_some])) | ((with_reducible refine gate_dst (N := 3) rfl ?_); refine box_event ?hg (N := 3) ?hd (cs := #[.int .i64 0, .int .i64 0]) (t := 138) ?hr ?_; (case hd => rfl); (case hg => rfl); (case hr => first | (go_simp; done) | (go_simp; rfl)); intro gb173 hg w6 hbox hb; have n0_ := Aside0.mk (IsS122.below zi2 hb); have n1_ := Aside0.mk (blk_below (g := gb168) (o := .cells #[.int .i64 0, .int .i64 0] 138 (0, 0)) (by (with_reducible repeat (first | refine blk_drewN ?_ _ | refine blk_drew ?_ | refine blk_alloc ?_ _)); exact BK168.out) hb); have n2_ := Aside0.mk (KeepBut.trans zk (KeepBut.of_below hb g none) (.inl rfl)); have n3_ := Aside0.mk (below_step zb hb); have n4_ := Aside0.mk (hbox); have n5_ := Aside0.mk ((by rw [hg]; exact (keep_size (w := w) (g := g) (row := none) zk) : w.heap.size ≤ gb173)); have n6_ := Aside0.mk ((Nat.le_trans HW0.out (by rw [hg]; exact (keep_size (w := w) (g := g) (row := none) zk) : w.heap.size ≤ gb173) : w0.heap.size ≤ gb173)); have n7_ := Aside0.mk ((by rw [hg]; exact Nat.ne_of_lt (blk_lt (g := gb168) (o := .cells #[.int .i64 0, .int .i64 0] 138 (0, 0)) (by (with_reducible repeat (first | refine blk_drewN ?_ _ | refine blk_drew ?_ | refine blk_alloc ?_ _)); exact BK168.out)) : gb168 ≠ gb173)); have n8_ := Aside0.mk ((by rw [hg]; exact Nat.ne_of_gt (blk_lt (g := gb168) (o := .cells #[.int .i64 0, .int .i64 0] 138 (0, 0)) (by (with_reducible repeat (first | refine blk_drewN ?_ _ | refine blk_drew ?_ | refine blk_alloc ?_ _)); exact BK168.out)) : gb173 ≠ gb168)); have n9_ := Aside0.mk ((by rw [hg]; exact Nat.ne_of_lt (IsS122.lt (show IsS122 w0 _ g t170 t171 t172 from zi2)) : g ≠ gb173)); have n10_ := Aside0.mk ((by rw [hg]; exact Nat.ne_of_gt (IsS122.lt (show IsS122 w0 _ g t170 t171 t172 from zi2)) : gb173 ≠ g)); clear HI0; clear BK168; clear HK; clear HB; have HI0 := n0_; have BK168 := n1_; have HK := n2_; have HB := n3_; have BK173 := n4_; have GW173 := n5_; have GE173 := n6_; have NB168_173 := n7_; have NB173_168 := n8_; have NB0_173 := n9_; have NB173_0 := n10_; clear n0_ n1_ n2_ n3_ n4_ n5_ n6_ n7_ n8_ n9_ n10_; clear hb hbox hg; have hnb7 := NB173_168.out; have hnc7 := NB168_173.out; have hnb8 := NB173_0.out; have hnc8 := NB0_173.out; have hcz9_0 : w6.cell? ⟨gb173, 0, none⟩ = some (.int .i64 0) := (blk_cell BK173.out 0).trans rfl; have hcz9_1 : w6.cell? ⟨gb173, 1, none⟩ = some (.int .i64 0) := (blk_cell BK173.out 1).trans rfl; have hfz9_0 := blk_frozen BK173.out 0; have hfz9_1 := blk_frozen BK173.out 1))
 (try simp only [Act.put, zq1, zq2, zq3])
 go_cut [14] (fun v14 wc => ∃ (kq : Nat) (x14_2 : Bool), v14 = .bool x14_2 ∧ Aside0 (patch_edit.j0 kq x14_2 t170 t171 t172 t169 0 = some (r1, r2, r3, r4, r5)) ∧ Aside0 (kq ≤ k) ∧ Aside0 (wc.heap[gb168]? = some (.cells #[.int .i64 0, .int .i64 0] 138 (0, 0))) ∧ Aside0 (wc.heap[gb173]? = some (.cells #[.int .i64 t169, .int .i64 0] 138 (0, 0))) ∧ Aside0 (IsS122 w0 wc g t170 t171 t172) ∧ Aside0 (KeepBut w wc g none) ∧ Aside0 (Below w0.heap.size w0 wc))
 case first =>
  have H := HC3.out
  clear HC3
  by_cases c10 : t169 < 1
  ·rw [if_pos c10] at H
   have c10b0 : decide (t169 < 1) = true := decide_eq_true c10
   clear c10
   (first | rw [c10b0] | (simp only [i64_w]; rw [c10b0]) | skip)
   have H' := Aside0.mk H
   clear H
   have hnb11 := NB173_168.out
   have hnc11 := NB168_173.out
   have hnb12 := NB173_0.out
   have hnc12 := NB0_173.out
   have hcz13_0 : w6.cell? ⟨gb173, 0, none⟩ = some (.int .i64 0) := (blk_cell BK173.out 0).trans rfl
   have hcz13_1 : w6.cell? ⟨gb173, 1, none⟩ = some (.int .i64 0) := (blk_cell BK173.out 1).trans rfl
   have hfz13_0 := blk_frozen BK173.out 0
   have hfz13_1 := blk_frozen BK173.out 1
   go_wp2
   go_meet
   case rel => exact ⟨_, (true), zr, H', ⟨by first | omega | exact Nat.le_refl _⟩, ⟨by (with_reducible repeat (first | refine blk_drewN ?_ _ | refine blk_drew ?_ | refine blk_alloc ?_ _)); refine blk_far ?_ NB168_173.out _; (with_reducible repeat (first | refine blk_drewN ?_ _ | refine blk_drew ?_ | refine blk_alloc ?_ _)); refine blk_far ?_ NB168_173.out _; (with_reducible repeat (first | refine blk_drewN ?_ _ | refine blk_drew ?_ | refine blk_alloc ?_ _)); exact BK168.out⟩, ⟨by (with_reducible repeat (first | refine blk_drewN ?_ _ | refine blk_drew ?_ | refine blk_alloc ?_ _)); refine blk_put (cs := #[.int .i64 t169, .int .i64 0]) ?_ 1 _ rfl; (with_reducible repeat (first | refine blk_drewN ?_ _ | refine blk_drew ?_ | refine blk_alloc ?_ _)); refine blk_put (cs := #[.int .i64 0, .int .i64 0]) ?_ 0 _ rfl; (with_reducible repeat (first | refine blk_drewN ?_ _ | refine blk_drew ?_ | refine blk_alloc ?_ _)); exact BK173.out⟩, ⟨zi2⟩, ⟨zk⟩, ⟨zb⟩⟩
  ·rw [if_neg c10] at H
   have c10b0 : decide (t169 < 1) = false := decide_eq_false c10
   clear c10
   (first | rw [c10b0] | (simp only [i64_w]; rw [c10b0]) | skip)
   have H' := Aside0.mk H
   clear H
   have hnb14 := NB173_168.out
   have hnc14 := NB168_173.out
   have hnb15 := NB173_0.out
   have hnc15 := NB0_173.out
   have hcz16_0 : w6.cell? ⟨gb173, 0, none⟩ = some (.int .i64 0) := (blk_cell BK173.out 0).trans rfl
   have hcz16_1 : w6.cell? ⟨gb173, 1, none⟩ = some (.int .i64 0) := (blk_cell BK173.out 1).trans rfl
   have hfz16_0 := blk_frozen BK173.out 0
   have hfz16_1 := blk_frozen BK173.out 1
   go_wp2
   go_meet
   case rel => exact ⟨_, (decide (t169 > 3)), zr, H', ⟨by first | omega | exact Nat.le_refl _⟩, ⟨by (with_reducible repeat (first | refine blk_drewN ?_ _ | refine blk_drew ?_ | refine blk_alloc ?_ _)); refine blk_far ?_ NB168_173.out _; (with_reducible repeat (first | refine blk_drewN ?_ _ | refine blk_drew ?_ | refine blk_alloc ?_ _)); refine blk_far ?_ NB168_173.out _; (with_reducible repeat (first | refine blk_drewN ?_ _ | refine blk_drew ?_ | refine blk_alloc ?_ _)); exact BK168.out⟩, ⟨by (with_reducible repeat (first | refine blk_drewN ?_ _ | refine blk_drew ?_ | refine blk_alloc ?_ _)); refine blk_put (cs := #[.int .i64 t169, .int .i64 0]) ?_ 1 _ rfl; (with_reducible repeat (first | refine blk_drewN ?_ _ | refine blk_drew ?_ | refine blk_alloc ?_ _)); refine blk_put (cs := #[.int .i64 0, .int .i64 0]) ?_ 0 _ rfl; (with_reducible repeat (first | refine blk_drewN ?_ _ | refine blk_drew ?_ | refine blk_alloc ?_ _)); exact BK173.out⟩, ⟨zi2⟩, ⟨zk⟩, ⟨zb⟩⟩
 case rest =>
  clear HC3
  try clear c1
  try clear p2
  try clear c7
  try clear c8
  try clear c10
  try clear c10b0
  try clear c11
  try clear c12
  try clear c14
  try clear c15
  try clear hcz13_0
  try clear hcz13_1
  try clear hcz16_0
  try clear hcz16_1
  try clear hcz9_0
  try clear hcz9_1
  try clear hfz13_0
  try clear hfz13_1
  try clear hfz16_0
  try clear hfz16_1
  try clear hfz9_0
  try clear hfz9_1
  obtain ⟨kq, x14_2, rfl, HA, HJ2, BK168, BK173, HI0, HK, HB⟩ := hcut
  cases kq with
  | zero => exact absurd HA.out (by simp [patch_edit.j0])
  | succ kj2 =>
   have H := HA.out
   clear HA
   simp only [patch_edit.j0] at H
   by_cases c17 : x14_2 = true
   ·subst c17
    have H1 : ((cursor_Cursor_Fail.f t170 t171 t172 21).bind fun bt174 => ((cursor_Cursor_Uint.f kj2 bt174.1 bt174.2.1 bt174.2.2 16777216).bind fun bt177 => (some (t169, bt177.1, bt177.2.1, bt177.2.2.1, bt177.2.2.2)))) = some (r1, r2, r3, r4, r5) := by rw [if_pos rfl] at H; exact H
    clear H
    have H := H1
    clear H1
    replace H := Option.bind_eq_some_iff.mp H
    obtain ⟨⟨t174, t175, t176⟩, A180, H⟩ := H
    replace H : ((cursor_Cursor_Uint.f kj2 t174 t175 t176 16777216).bind fun bt177 => (some (t169, bt177.1, bt177.2.1, bt177.2.2.1, bt177.2.2.2))) = some (r1, r2, r3, r4, r5) := H
    have A18 := Aside0.mk A180
    clear A180
    replace H := Option.bind_eq_some_iff.mp H
    obtain ⟨⟨t177, t178, t179, t180⟩, A190, H⟩ := H
    replace H : (some (t169, t177, t178, t179, t180)) = some (r1, r2, r3, r4, r5) := H
    have A19 := Aside0.mk A190
    clear A190
    simp only [Option.some.injEq, Prod.mk.injEq] at H
    obtain ⟨rfl, rfl, rfl, rfl, rfl⟩ := H
    go_wp2_with (first | ((with_reducible refine gate_callee (f := 52) rfl ?_); refine goesL_ (some 16) rfl rfl Try.func52 (by kernel_rfl) rfl #[.pointer (some ⟨g, 0, none⟩), .int .i64 21] rfl zm ?_; (with_reducible refine (cursor_Cursor_Fail.calls g t170 t171 t172 21 t174 t175 t176 w0 _ ?side1 ?side2 A18.out).mono ?_); (case side1 => exact zi2); (case side2 => exact zb); rintro e w20 ⟨rfl, hi, hb, hk⟩; refine ⟨_, rfl, ?_⟩; have n0_ := Aside0.mk (KeepBut.blk hk (g' := gb168) (o := .cells #[.int .i64 0, .int .i64 0] 138 (0, 0)) (by (with_reducible repeat (first | refine blk_drewN ?_ _ | refine blk_drew ?_ | refine blk_alloc ?_ _)); exact BK168.out) NB168_0.out (by simp)); have n1_ := Aside0.mk (KeepBut.blk hk (g' := gb173) (o := .cells #[.int .i64 t169, .int .i64 0] 138 (0, 0)) (by (with_reducible repeat (first | refine blk_drewN ?_ _ | refine blk_drew ?_ | refine blk_alloc ?_ _)); exact BK173.out) NB173_0.out (by simp)); have n2_ := Aside0.mk (KeepBut.trans zk hk (.inl rfl)); have n3_ := Aside0.mk (hb); have n4_ := Aside0.mk (hi); clear BK168; clear BK173; clear HK; clear HB; clear HI0; have BK168 := n0_; have BK173 := n1_; have HK := n2_; have HB := n3_; have HI0 := n4_; clear n0_ n1_ n2_ n3_ n4_; (try clear hb); (try clear hb2); (try clear hk); (try clear hi); (try simp only [errW_none, errW_some])) | ((with_reducible refine gate_callee (f := 73) rfl ?_); refine goesL_ (some 18) rfl rfl Try.func73 (by kernel_rfl) rfl #[.pointer (some ⟨g, 0, none⟩), .int .u64 16777216] rfl zm ?_; (with_reducible refine (cursor_Cursor_Uint.calls kj2 g t174 t175 t176 16777216 t177 t178 t179 t180 w0 _ ?side1 ?side2 A19.out).mono ?_); (case side1 => exact zi2); (case side2 => exact zb); rintro e w21 ⟨rfl, hi, hb, hk⟩; refine ⟨_, rfl, ?_⟩; have n0_ := Aside0.mk (KeepBut.blk hk (g' := gb168) (o := .cells #[.int .i64 0, .int .i64 0] 138 (0, 0)) (by (with_reducible repeat (first | refine blk_drewN ?_ _ | refine blk_drew ?_ | refine blk_alloc ?_ _)); exact BK168.out) NB168_0.out (by simp)); have n1_ := Aside0.mk (KeepBut.blk hk (g' := gb173) (o := .cells #[.int .i64 t169, .int .i64 0] 138 (0, 0)) (by (with_reducible repeat (first | refine blk_drewN ?_ _ | refine blk_drew ?_ | refine blk_alloc ?_ _)); exact BK173.out) NB173_0.out (by simp)); have n2_ := Aside0.mk (KeepBut.trans zk hk (.inl rfl)); have n3_ := Aside0.mk (hb); have n4_ := Aside0.mk (hi); clear BK168; clear BK173; clear HK; clear HB; clear HI0; have BK168 := n0_; have BK173 := n1_; have HK := n2_; have HB := n3_; have HI0 := n4_; clear n0_ n1_ n2_ n3_ n4_; (try clear hb); (try clear hb2); (try clear hk); (try clear hi); (try simp only [errW_none, errW_some]); have hnb22 := NB173_168.out; have hnc22 := NB168_173.out; have hnb23 := NB173_0.out; have hnc23 := NB0_173.out; have hcz24_0 : w21.cell? ⟨gb173, 0, none⟩ = some (.int .i64 t169) := (blk_cell BK173.out 0).trans rfl; have hcz24_1 : w21.cell? ⟨gb173, 1, none⟩ = some (.int .i64 0) := (blk_cell BK173.out 1).trans rfl; have hfz24_0 := blk_frozen BK173.out 0; have hfz24_1 := blk_frozen BK173.out 1; have hnb25 := NB168_0.out; have hnc25 := NB0_168.out; have hcz26_0 : w21.cell? ⟨gb168, 0, none⟩ = some (.int .i64 0) := (blk_cell BK168.out 0).trans rfl; have hcz26_1 : w21.cell? ⟨gb168, 1, none⟩ = some (.int .i64 0) := (blk_cell BK168.out 1).trans rfl; have hfz26_0 := blk_frozen BK168.out 0; have hfz26_1 := blk_frozen BK168.out 1))
    refine bodyPost_ret (results_cell_row rfl _ _ gb168 138 #[.int .i64 t169, .int .i64 t177] (0, 0) _ rfl (by (with_reducible repeat (first | refine blk_drewN ?_ _ | refine blk_drew ?_ | refine blk_alloc ?_ _)); refine blk_put (cs := #[.int .i64 t169, .int .i64 0]) ?_ 1 _ rfl; (with_reducible repeat (first | refine blk_drewN ?_ _ | refine blk_drew ?_ | refine blk_alloc ?_ _)); refine blk_put (cs := #[.int .i64 0, .int .i64 0]) ?_ 0 _ rfl; (with_reducible repeat (first | refine blk_drewN ?_ _ | refine blk_drew ?_ | refine blk_alloc ?_ _)); refine blk_far ?_ NB168_173.out _; (with_reducible repeat (first | refine blk_drewN ?_ _ | refine blk_drew ?_ | refine blk_alloc ?_ _)); exact BK168.out) Try.underlying138 rfl (by kernel_rfl)) rfl ?_
    exact ⟨ze, zi2, zb, zk⟩
   ·replace c17 := Bool.eq_false_iff.mpr c17
    subst c17
    have H1 : ((cursor_Cursor_Uint.f kj2 t170 t171 t172 16777216).bind fun bt181 => (some (t169, bt181.1, bt181.2.1, bt181.2.2.1, bt181.2.2.2))) = some (r1, r2, r3, r4, r5) := by rw [if_neg (show ¬ (false = true) by decide)] at H; exact H
    clear H
    have H := H1
    clear H1
    replace H := Option.bind_eq_some_iff.mp H
    obtain ⟨⟨t181, t182, t183, t184⟩, A270, H⟩ := H
    replace H : (some (t169, t181, t182, t183, t184)) = some (r1, r2, r3, r4, r5) := H
    have A27 := Aside0.mk A270
    clear A270
    simp only [Option.some.injEq, Prod.mk.injEq] at H
    obtain ⟨rfl, rfl, rfl, rfl, rfl⟩ := H
    go_wp2_with (first | ((with_reducible refine gate_callee (f := 73) rfl ?_); refine goesL_ (some 18) rfl rfl Try.func73 (by kernel_rfl) rfl #[.pointer (some ⟨g, 0, none⟩), .int .u64 16777216] rfl zm ?_; (with_reducible refine (cursor_Cursor_Uint.calls kj2 g t170 t171 t172 16777216 t181 t182 t183 t184 w0 _ ?side1 ?side2 A27.out).mono ?_); (case side1 => exact zi2); (case side2 => exact zb); rintro e w28 ⟨rfl, hi, hb, hk⟩; refine ⟨_, rfl, ?_⟩; have n0_ := Aside0.mk (KeepBut.blk hk (g' := gb168) (o := .cells #[.int .i64 0, .int .i64 0] 138 (0, 0)) (by (with_reducible repeat (first | refine blk_drewN ?_ _ | refine blk_drew ?_ | refine blk_alloc ?_ _)); exact BK168.out) NB168_0.out (by simp)); have n1_ := Aside0.mk (KeepBut.blk hk (g' := gb173) (o := .cells #[.int .i64 t169, .int .i64 0] 138 (0, 0)) (by (with_reducible repeat (first | refine blk_drewN ?_ _ | refine blk_drew ?_ | refine blk_alloc ?_ _)); exact BK173.out) NB173_0.out (by simp)); have n2_ := Aside0.mk (KeepBut.trans zk hk (.inl rfl)); have n3_ := Aside0.mk (hb); have n4_ := Aside0.mk (hi); clear BK168; clear BK173; clear HK; clear HB; clear HI0; have BK168 := n0_; have BK173 := n1_; have HK := n2_; have HB := n3_; have HI0 := n4_; clear n0_ n1_ n2_ n3_ n4_; (try clear hb); (try clear hb2); (try clear hk); (try clear hi); (try simp only [errW_none, errW_some]); have hnb29 := NB173_168.out; have hnc29 := NB168_173.out; have hnb30 := NB173_0.out; have hnc30 := NB0_173.out; have hcz31_0 : w28.cell? ⟨gb173, 0, none⟩ = some (.int .i64 t169) := (blk_cell BK173.out 0).trans rfl; have hcz31_1 : w28.cell? ⟨gb173, 1, none⟩ = some (.int .i64 0) := (blk_cell BK173.out 1).trans rfl; have hfz31_0 := blk_frozen BK173.out 0; have hfz31_1 := blk_frozen BK173.out 1; have hnb32 := NB168_0.out; have hnc32 := NB0_168.out; have hcz33_0 : w28.cell? ⟨gb168, 0, none⟩ = some (.int .i64 0) := (blk_cell BK168.out 0).trans rfl; have hcz33_1 : w28.cell? ⟨gb168, 1, none⟩ = some (.int .i64 0) := (blk_cell BK168.out 1).trans rfl; have hfz33_0 := blk_frozen BK168.out 0; have hfz33_1 := blk_frozen BK168.out 1))
    refine bodyPost_ret (results_cell_row rfl _ _ gb168 138 #[.int .i64 t169, .int .i64 t181] (0, 0) _ rfl (by (with_reducible repeat (first | refine blk_drewN ?_ _ | refine blk_drew ?_ | refine blk_alloc ?_ _)); refine blk_put (cs := #[.int .i64 t169, .int .i64 0]) ?_ 1 _ rfl; (with_reducible repeat (first | refine blk_drewN ?_ _ | refine blk_drew ?_ | refine blk_alloc ?_ _)); refine blk_put (cs := #[.int .i64 0, .int .i64 0]) ?_ 0 _ rfl; (with_reducible repeat (first | refine blk_drewN ?_ _ | refine blk_drew ?_ | refine blk_alloc ?_ _)); refine blk_far ?_ NB168_173.out _; (with_reducible repeat (first | refine blk_drewN ?_ _ | refine blk_drew ?_ | refine blk_alloc ?_ _)); exact BK168.out) Try.underlying138 rfl (by kernel_rfl)) rfl ?_
    exact ⟨ze, zi2, zb, zk⟩
mutual
def dioramaref01_Get.j0 : Nat → ByteArray → Int → Bool → Option (Int × Int × Int)
 | 0, _, _, _ => none
 | k + 1, x0, x1, x18 => if x18 = true then (some (0, 0, 1)) else (dioramaref01_Get.l0 k x0 x1 0 1 x1)
def dioramaref01_Get.l0 : Nat → ByteArray → Int → Int → Int → Int → Option (Int × Int × Int)
 | 0, _, _, _, _, _ => none
 | k + 1, x0, x1, x7, x8, x9 => if x9 < (x0.size : Int) then (if 0 ≤ x9 then (if (wrap64 (x9 - x1)) = 9 then (dioramaref01_Get.j2 k x0 x1 x7 x8 x9 (bt x0 x9) (decide ((bt x0 x9) > 1))) else (dioramaref01_Get.j2 k x0 x1 x7 x8 x9 (bt x0 x9) false)) else (none)) else (some (0, 0, 2))
def dioramaref01_Get.j2 : Nat → ByteArray → Int → Int → Int → Int → Int → Bool → Option (Int × Int × Int)
 | 0, _, _, _, _, _, _, _ => none
 | k + 1, x0, x1, x7, x8, x9, x10, x36 => if x36 = true then (some (0, 0, 3)) else (if x10 = 0 then (dioramaref01_Get.j3 k x0 x1 x7 x8 x9 x10 (decide (x9 > x1))) else (dioramaref01_Get.j3 k x0 x1 x7 x8 x9 x10 false))
def dioramaref01_Get.j3 : Nat → ByteArray → Int → Int → Int → Int → Int → Bool → Option (Int × Int × Int)
 | 0, _, _, _, _, _, _, _ => none
 | k + 1, x0, x1, x7, x8, x9, x10, x43 => if x43 = true then (some (0, 0, 3)) else (if x10 < 128 then (some (IntKind.u64.wrap (x7 + (IntKind.u64.wrap (x8 * (IntKind.u64.wrap (Int.tmod x10 128))))), wrap64 (x9 + 1), 0)) else (dioramaref01_Get.l0 k x0 x1 (IntKind.u64.wrap (x7 + (IntKind.u64.wrap (x8 * (IntKind.u64.wrap (Int.tmod x10 128)))))) (IntKind.u64.wrap (x8 * 128)) (wrap64 (x9 + 1))))
end
def dioramaref01_Get.f (k : Nat) (a0 : ByteArray) (a1 : Int) : Option (Int × Int × Int) := if a1 < 0 then (dioramaref01_Get.j0 k a0 a1 true) else (dioramaref01_Get.j0 k a0 a1 (decide (a1 > (a0.size : Int))))
set_option maxHeartbeats 8000000 in
set_option maxRecDepth 100000 in
theorem dioramaref01_Get.calls (k : Nat) (a0 : ByteArray) (a1 : Int) (r1 : Int) (r2 : Int) (r3 : Int) (w : World) (h : dioramaref01_Get.f k a0 a1 = some (r1, r2, r3)) :
  Calls Try.prog 56 #[.string a0, .int .i64 a1] w fun e w' => e = .returned (.tuple #[.int .u64 r1, .int .i64 r2, .int .i64 r3]) ∧ Drawn0 w w' := by
 have H : (if a1 < 0 then (dioramaref01_Get.j0 k a0 a1 true) else (dioramaref01_Get.j0 k a0 a1 (decide (a1 > (a0.size : Int))))) = some (r1, r2, r3) := h
 clear h
 have HC3 := Aside0.mk H
 clear H
 go_enter Try.func56, Try.ntmps56
 go_upto_region 1 with (fail)
 go_cut [18] (fun v18 wc => ∃ (kq : Nat) (x18_2 : Bool), v18 = .bool x18_2 ∧ Aside0 (dioramaref01_Get.j0 kq a0 a1 x18_2 = some (r1, r2, r3)) ∧ Aside0 (kq ≤ k) ∧ Drawn0 w wc)
 case first =>
  have H := HC3.out
  clear HC3
  by_cases c4 : a1 < 0
  ·rw [if_pos c4] at H
   have c4b0 : decide (a1 < 0) = true := decide_eq_true c4
   clear c4
   (first | rw [c4b0] | (simp only [i64_w]; rw [c4b0]) | skip)
   have H' := Aside0.mk H
   clear H
   go_wp2
   go_meet
   case rel => exact ⟨_, (true), zr, H', ⟨by first | omega | exact Nat.le_refl _⟩, by repeat (first | exact Drawn0.refl _ | apply Drawn0.step)⟩
  ·rw [if_neg c4] at H
   have c4b0 : decide (a1 < 0) = false := decide_eq_false c4
   clear c4
   (first | rw [c4b0] | (simp only [i64_w]; rw [c4b0]) | skip)
   have H' := Aside0.mk H
   clear H
   go_wp2
   go_meet
   case rel => exact ⟨_, (decide (a1 > (a0.size : Int))), zr, H', ⟨by first | omega | exact Nat.le_refl _⟩, by repeat (first | exact Drawn0.refl _ | apply Drawn0.step)⟩
 case rest =>
  clear HC3
  try clear p2
  try clear c4
  try clear c4b0
  obtain ⟨kq, x18_2, rfl, HA, HJ2, ⟨mc2, rfl⟩⟩ := hcut
  cases kq with
  | zero => exact absurd HA.out (by simp [dioramaref01_Get.j0])
  | succ kj2 =>
   have H := HA.out
   clear HA
   simp only [dioramaref01_Get.j0] at H
   by_cases c5 : x18_2 = true
   ·subst c5
    have H1 : (some (0, 0, 1)) = some (r1, r2, r3) := by rw [if_pos rfl] at H; exact H
    clear H
    have H := H1
    clear H1
    simp only [Option.some.injEq, Prod.mk.injEq] at H
    obtain ⟨rfl, rfl, rfl⟩ := H
    go_wp2
    go_ret3
    exact ⟨by first | rfl | (simp; done) | (simp [*]; done), by repeat (first | exact Drawn0.refl _ | apply Drawn0.step)⟩
   ·replace c5 := Bool.eq_false_iff.mpr c5
    subst c5
    have H1 : (dioramaref01_Get.l0 kj2 a0 a1 0 1 a1) = some (r1, r2, r3) := by rw [if_neg (show ¬ (false = true) by decide)] at H; exact H
    clear H
    have H := H1
    clear H1
    have H' := Aside0.mk H
    clear H
    go_wp2
    go_loopg [7, 8, 9] kj2 (fun kq v7 v8 v9 w' => ∃ (x7_2 : Int) (x8_2 : Int) (x9_2 : Int), v7 = .int .u64 x7_2 ∧ v8 = .int .u64 x8_2 ∧ v9 = .int .i64 x9_2 ∧ Aside0 (dioramaref01_Get.l0 kq a0 a1 x7_2 x8_2 x9_2 = some (r1, r2, r3)) ∧ Aside0 (kq ≤ kj2) ∧ Drawn0 w w')
    case atStart => exact ⟨(0), (1), (a1), zr, zr, zr, H', ⟨Nat.le_refl _⟩, by repeat (first | exact Drawn0.refl _ | apply Drawn0.step)⟩
    case round =>
     clear H'
     try clear c2
     try clear p2
     try clear c4
     try clear c4b0
     try clear c5
     try clear p2
     obtain ⟨x7_2, x8_2, x9_2, rfl, rfl, rfl, HA, HK2, ⟨m2, rfl⟩⟩ := hrel
     cases gk with
     | zero => exact absurd HA.out (by simp [dioramaref01_Get.l0])
     | succ k2 =>
      have H := HA.out
      clear HA
      simp only [dioramaref01_Get.l0] at H
      by_cases c6 : x9_2 < (a0.size : Int)
      ·rw [if_pos c6] at H
       have c6b0 : decide (x9_2 < (a0.size : Int)) = true := decide_eq_true c6
       clear c6
       by_cases c7 : 0 ≤ x9_2
       ·rw [if_pos c7] at H
        have c7b0 : decide (0 ≤ x9_2) = true := decide_eq_true c7
        clear c7
        have HC9 := Aside0.mk H
        clear H
        have p8 : 0 ≤ (x9_2 : Int) := of_decide_eq_true (by first | (with_reducible assumption) | assumption)
        have q8 : x9_2 < (a0.size : Int) := of_decide_eq_true (by first | (with_reducible assumption) | assumption)
        have hx8 := bt_at a0 x9_2
        replace p8 := eq_true p8
        replace q8 := eq_true q8
        go_upto_region 9 with (fail)
        go_cut [36] (fun v36 wc => ∃ (kq : Nat) (x36_8 : Bool), v36 = .bool x36_8 ∧ Aside0 (dioramaref01_Get.j2 kq a0 a1 x7_2 x8_2 x9_2 (bt a0 x9_2) x36_8 = some (r1, r2, r3)) ∧ Aside0 (kq ≤ k2) ∧ Drawn0 w wc)
        case first =>
         have H := HC9.out
         clear HC9
         by_cases c10 : (wrap64 (x9_2 - a1)) = 9
         ·rw [if_pos c10] at H
          have c10b0 : ((wrap64 (x9_2 - a1)) == 9) = true := beq_iff_eq.mpr c10
          have c10b1 : ((wrap64 (x9_2 - a1)) != 9) = false := bne_eq_false_iff_eq.mpr c10
          clear c10
          (first | rw [c10b0] | (simp only [i64_w]; rw [c10b0]) | skip)
          have H' := Aside0.mk H
          clear H
          go_wp2
          go_meet
          case rel => exact ⟨_, (decide ((bt a0 x9_2) > 1)), zr, H', ⟨by have := HJ2.out; have := HK2.out; first | omega | exact Nat.le_refl _⟩, by repeat (first | exact Drawn0.refl _ | apply Drawn0.step)⟩
         ·rw [if_neg c10] at H
          have c10b0 : ((wrap64 (x9_2 - a1)) == 9) = false := beq_eq_false_iff_ne.mpr c10
          have c10b1 : ((wrap64 (x9_2 - a1)) != 9) = true := bne_iff_ne.mpr c10
          (first | rw [c10b0] | (simp only [i64_w]; rw [c10b0]) | skip)
          have H' := Aside0.mk H
          clear H
          go_wp2
          go_meet
          case rel => exact ⟨_, (false), zr, H', ⟨by have := HJ2.out; have := HK2.out; first | omega | exact Nat.le_refl _⟩, by repeat (first | exact Drawn0.refl _ | apply Drawn0.step)⟩
        case rest =>
         clear HC9
         try clear c1
         try clear c2
         try clear p2
         try clear c4
         try clear c4b0
         try clear c5
         try clear c6
         try clear c6b0
         try clear p6
         try clear c7
         try clear c7b0
         try clear p8
         try clear q8
         try clear hx8
         try clear c10
         try clear c10b0
         try clear c10b1
         try clear p2
         try clear p8
         try clear q8
         obtain ⟨kq, x36_8, rfl, HA, HJ8, ⟨mc8, rfl⟩⟩ := hcut
         cases kq with
         | zero => exact absurd HA.out (by simp [dioramaref01_Get.j2])
         | succ kj8 =>
          have H := HA.out
          clear HA
          simp only [dioramaref01_Get.j2] at H
          by_cases c11 : x36_8 = true
          ·subst c11
           have H1 : (some (0, 0, 3)) = some (r1, r2, r3) := by rw [if_pos rfl] at H; exact H
           clear H
           have H := H1
           clear H1
           simp only [Option.some.injEq, Prod.mk.injEq] at H
           obtain ⟨rfl, rfl, rfl⟩ := H
           go_wp2
           go_ret3
           exact ⟨by first | rfl | (simp; done) | (simp [*]; done), by repeat (first | exact Drawn0.refl _ | apply Drawn0.step)⟩
          ·replace c11 := Bool.eq_false_iff.mpr c11
           subst c11
           have H1 : (if (bt a0 x9_2) = 0 then (dioramaref01_Get.j3 kj8 a0 a1 x7_2 x8_2 x9_2 (bt a0 x9_2) (decide (x9_2 > a1))) else (dioramaref01_Get.j3 kj8 a0 a1 x7_2 x8_2 x9_2 (bt a0 x9_2) false)) = some (r1, r2, r3) := by rw [if_neg (show ¬ (false = true) by decide)] at H; exact H
           clear H
           have H := H1
           clear H1
           have HC12 := Aside0.mk H
           clear H
           go_upto_region 11 with (fail)
           go_cut [43] (fun v43 wc => ∃ (kq : Nat) (x43_11 : Bool), v43 = .bool x43_11 ∧ Aside0 (dioramaref01_Get.j3 kq a0 a1 x7_2 x8_2 x9_2 (bt a0 x9_2) x43_11 = some (r1, r2, r3)) ∧ Aside0 (kq ≤ kj8) ∧ Drawn0 w wc)
           case first =>
            have H := HC12.out
            clear HC12
            by_cases c13 : (bt a0 x9_2) = 0
            ·rw [if_pos c13] at H
             have c13b0 : ((bt a0 x9_2) == 0) = true := beq_iff_eq.mpr c13
             have c13b1 : ((bt a0 x9_2) != 0) = false := bne_eq_false_iff_eq.mpr c13
             clear c13
             (first | rw [c13b0] | (simp only [i64_w]; rw [c13b0]) | skip)
             have H' := Aside0.mk H
             clear H
             go_wp2
             go_meet
             case rel => exact ⟨_, (decide (x9_2 > a1)), zr, H', ⟨by have := HJ2.out; have := HK2.out; have := HJ8.out; first | omega | exact Nat.le_refl _⟩, by repeat (first | exact Drawn0.refl _ | apply Drawn0.step)⟩
            ·rw [if_neg c13] at H
             have c13b0 : ((bt a0 x9_2) == 0) = false := beq_eq_false_iff_ne.mpr c13
             have c13b1 : ((bt a0 x9_2) != 0) = true := bne_iff_ne.mpr c13
             (first | rw [c13b0] | (simp only [i64_w]; rw [c13b0]) | skip)
             have H' := Aside0.mk H
             clear H
             go_wp2
             go_meet
             case rel => exact ⟨_, (false), zr, H', ⟨by have := HJ2.out; have := HK2.out; have := HJ8.out; first | omega | exact Nat.le_refl _⟩, by repeat (first | exact Drawn0.refl _ | apply Drawn0.step)⟩
           case rest =>
            clear HC12
            try clear c1
            try clear c2
            try clear p2
            try clear c4
            try clear c4b0
            try clear c5
            try clear c6
            try clear c6b0
            try clear p6
            try clear c7
            try clear c7b0
            try clear c8
            try clear p8
            try clear q8
            try clear hx8
            try clear c10
            try clear c10b0
            try clear c10b1
            try clear c11
            try clear c13
            try clear c13b0
            try clear c13b1
            try clear p2
            try clear p6
            try clear p8
            try clear q8
            obtain ⟨kq, x43_11, rfl, HA, HJ11, ⟨mc11, rfl⟩⟩ := hcut
            cases kq with
            | zero => exact absurd HA.out (by simp [dioramaref01_Get.j3])
            | succ kj11 =>
             have H := HA.out
             clear HA
             simp only [dioramaref01_Get.j3] at H
             by_cases c14 : x43_11 = true
             ·subst c14
              have H1 : (some (0, 0, 3)) = some (r1, r2, r3) := by rw [if_pos rfl] at H; exact H
              clear H
              have H := H1
              clear H1
              simp only [Option.some.injEq, Prod.mk.injEq] at H
              obtain ⟨rfl, rfl, rfl⟩ := H
              go_wp2
              go_ret3
              exact ⟨by first | rfl | (simp; done) | (simp [*]; done), by repeat (first | exact Drawn0.refl _ | apply Drawn0.step)⟩
             ·replace c14 := Bool.eq_false_iff.mpr c14
              subst c14
              have H1 : (if (bt a0 x9_2) < 128 then (some (IntKind.u64.wrap (x7_2 + (IntKind.u64.wrap (x8_2 * (IntKind.u64.wrap (Int.tmod (bt a0 x9_2) 128))))), wrap64 (x9_2 + 1), 0)) else (dioramaref01_Get.l0 kj11 a0 a1 (IntKind.u64.wrap (x7_2 + (IntKind.u64.wrap (x8_2 * (IntKind.u64.wrap (Int.tmod (bt a0 x9_2) 128)))))) (IntKind.u64.wrap (x8_2 * 128)) (wrap64 (x9_2 + 1)))) = some (r1, r2, r3) := by rw [if_neg (show ¬ (false = true) by decide)] at H; exact H
              clear H
              have H := H1
              clear H1
              by_cases c15 : (bt a0 x9_2) < 128
              ·rw [if_pos c15] at H
               have c15b0 : decide ((bt a0 x9_2) < 128) = true := decide_eq_true c15
               clear c15
               simp only [Option.some.injEq, Prod.mk.injEq] at H
               obtain ⟨rfl, rfl, rfl⟩ := H
               go_wp2
               go_ret3
               exact ⟨by first | rfl | (simp; done) | (simp [*]; done), by repeat (first | exact Drawn0.refl _ | apply Drawn0.step)⟩
              ·rw [if_neg c15] at H
               have c15b0 : decide ((bt a0 x9_2) < 128) = false := decide_eq_false c15
               clear c15
               have H' := Aside0.mk H
               clear H
               go_wp2
               go_roundg kj11
               case measure => have := HJ2.out; have := HK2.out; have := HJ8.out; have := HJ11.out; omega
               case rel => exact ⟨(IntKind.u64.wrap (x7_2 + (IntKind.u64.wrap (x8_2 * (IntKind.u64.wrap (Int.tmod (bt a0 x9_2) 128)))))), (IntKind.u64.wrap (x8_2 * 128)), (wrap64 (x9_2 + 1)), zr, zr, zr, H', ⟨by have := HJ2.out; have := HK2.out; have := HJ8.out; have := HJ11.out; omega⟩, by repeat (first | exact Drawn0.refl _ | apply Drawn0.step)⟩
       ·rw [if_neg c7] at H
        exact absurd H (by simp)
      ·rw [if_neg c6] at H
       have c6b0 : decide (x9_2 < (a0.size : Int)) = false := decide_eq_false c6
       clear c6
       simp only [Option.some.injEq, Prod.mk.injEq] at H
       obtain ⟨rfl, rfl, rfl⟩ := H
       go_wp2
       go_ret3
       exact ⟨by first | rfl | (simp; done) | (simp [*]; done), by repeat (first | exact Drawn0.refl _ | apply Drawn0.step)⟩
def IsS116 (w0 W : World) (g : Nat) (f0 : ByteArray) (f1 : Int) (f2 : Int) : Prop := W.heap[g]? = some (.cells #[.string f0, .int .i64 f1, .int .i64 f2] 116 (0, 0)) ∧ w0.heap.size ≤ g
theorem IsS116.grown {w0 W : World} {g : Nat} {f0 : ByteArray} {f1 : Int} {f2 : Int} {W1 : World} {row : Option Nat} (h : IsS116 w0 W g f0 f1 f2) (hw : W.grownBy W1 row) (hne : some g ≠ row) : IsS116 w0 W1 g f0 f1 f2 := by
 obtain ⟨hb, hg⟩ := h
 exact ⟨blk_grown hb hw hne, hg⟩
theorem IsS116.below {w0 W : World} {g : Nat} {f0 : ByteArray} {f1 : Int} {f2 : Int} {W1 : World} (h : IsS116 w0 W g f0 f1 f2) (hw : Below W.heap.size W W1) : IsS116 w0 W1 g f0 f1 f2 := h.grown (grown_of_below hw none) (by simp)
theorem IsS116.alloc {w0 W : World} {g : Nat} {f0 : ByteArray} {f1 : Int} {f2 : Int} (h : IsS116 w0 W g f0 f1 f2) (o : Obj) : IsS116 w0 (W.alloc o) g f0 f1 f2 := h.below (below_alloc (Below.refl _ _) o)
theorem IsS116.drewN {w0 W : World} {g : Nat} {f0 : ByteArray} {f1 : Int} {f2 : Int} (h : IsS116 w0 W g f0 f1 f2) (m : Nat) : IsS116 w0 (W.drewN m) g f0 f1 f2 := h
theorem IsS116.drew {w0 W : World} {g : Nat} {f0 : ByteArray} {f1 : Int} {f2 : Int} (h : IsS116 w0 W g f0 f1 f2) : IsS116 w0 W.drew g f0 f1 f2 := h
theorem IsS116.apart {w0 W : World} {g : Nat} {f0 : ByteArray} {f1 : Int} {f2 : Int} {α : Type} {d : Kd α} {e : Nat} {base : Nat} {ok : Nat → Prop} {v : Value} {xs : List α} (h : IsS116 w0 W g f0 f1 f2) (ho : d.R e W base ok v xs) (ht : ∀ q, q ∈ e :: d.E → q ≠ 116) : d.R e W base (fun k => ok k ∧ k ≠ g) v xs := by
 obtain ⟨hb, hg⟩ := h
 exact Kd.R_types ho hb ht
theorem IsS116.own_ne {w0 W : World} {g : Nat} {f0 : ByteArray} {f1 : Int} {f2 : Int} {α : Type} {d : Kd α} {e : Nat} {base : Nat} {ok : Nat → Prop} {v : Value} {xs : List α} (h : IsS116 w0 W g f0 f1 f2) (ho : d.R e W base ok v xs) (ht : e ≠ 116) : some g ≠ v.ownBlock := by
 obtain ⟨hb, hg⟩ := h
 exact Kd.R_ne ho hb ht
theorem IsS116.lt {w0 W : World} {g : Nat} {f0 : ByteArray} {f1 : Int} {f2 : Int} (h : IsS116 w0 W g f0 f1 f2) : g < W.heap.size := by
 obtain ⟨hb, hg⟩ := h
 exact blk_lt hb
theorem IsS116.ge {w0 W : World} {g : Nat} {f0 : ByteArray} {f1 : Int} {f2 : Int} (h : IsS116 w0 W g f0 f1 f2) : w0.heap.size ≤ g := by
 obtain ⟨hb, hg⟩ := h
 exact hg
theorem IsS116.ne_blk {w0 W : World} {g : Nat} {f0 : ByteArray} {f1 : Int} {f2 : Int} {a : Nat} {cs : Array Value} {t : TypeId} {fr : Nat × Nat} (h : IsS116 w0 W g f0 f1 f2) (hb2 : W.heap[a]? = some (.cells cs t fr)) (ht : t ≠ 116) : g ≠ a := by
 obtain ⟨hb, hg⟩ := h
 rintro rfl
 rw [hb] at hb2
 injection hb2 with hb2
 injection hb2 with _ ht2
 exact ht ht2.symm
theorem IsS116.far {w0 W : World} {g : Nat} {f0 : ByteArray} {f1 : Int} {f2 : Int} {p : Addr} (h : IsS116 w0 W g f0 f1 f2) (hne : g ≠ p.block) (u : Value) : IsS116 w0 (W.setCell p u) g f0 f1 f2 := by
 obtain ⟨hb, hg⟩ := h
 exact ⟨blk_far hb hne u, hg⟩
theorem cellS116_0 {W : World} {g : Nat} {f0 : ByteArray} {f1 : Int} {f2 : Int} (h : W.heap[g]? = some (.cells #[.string f0, .int .i64 f1, .int .i64 f2] 116 (0, 0))) : W.cell? ⟨g, 0, none⟩ = some (.string f0) := (blk_cell h 0).trans rfl
theorem IsS116.set_0 {w0 W : World} {g : Nat} {f0 : ByteArray} {f1 : Int} {f2 : Int} (h : IsS116 w0 W g f0 f1 f2) (x : ByteArray) : IsS116 w0 (W.setCell ⟨g, 0, none⟩ (.string x)) g x f1 f2 := by
 obtain ⟨hb, hg⟩ := h
 exact ⟨by simpa using blk_set hb 0 (.string x), hg⟩
theorem cellS116_1 {W : World} {g : Nat} {f0 : ByteArray} {f1 : Int} {f2 : Int} (h : W.heap[g]? = some (.cells #[.string f0, .int .i64 f1, .int .i64 f2] 116 (0, 0))) : W.cell? ⟨g, 1, none⟩ = some (.int .i64 f1) := (blk_cell h 1).trans rfl
theorem IsS116.set_1 {w0 W : World} {g : Nat} {f0 : ByteArray} {f1 : Int} {f2 : Int} (h : IsS116 w0 W g f0 f1 f2) (x : Int) : IsS116 w0 (W.setCell ⟨g, 1, none⟩ (.int .i64 x)) g f0 x f2 := by
 obtain ⟨hb, hg⟩ := h
 exact ⟨by simpa using blk_set hb 1 (.int .i64 x), hg⟩
theorem cellS116_2 {W : World} {g : Nat} {f0 : ByteArray} {f1 : Int} {f2 : Int} (h : W.heap[g]? = some (.cells #[.string f0, .int .i64 f1, .int .i64 f2] 116 (0, 0))) : W.cell? ⟨g, 2, none⟩ = some (.int .i64 f2) := (blk_cell h 2).trans rfl
theorem IsS116.set_2 {w0 W : World} {g : Nat} {f0 : ByteArray} {f1 : Int} {f2 : Int} (h : IsS116 w0 W g f0 f1 f2) (x : Int) : IsS116 w0 (W.setCell ⟨g, 2, none⟩ (.int .i64 x)) g f0 f1 x := by
 obtain ⟨hb, hg⟩ := h
 exact ⟨by simpa using blk_set hb 2 (.int .i64 x), hg⟩
theorem IsS116.new (w0 W : World) (f0 : ByteArray) (f1 : Int) (f2 : Int) (hB : Below w0.heap.size w0 W) : IsS116 w0 (W.alloc (.cells #[.string f0, .int .i64 f1, .int .i64 f2] 116)) W.heap.size f0 f1 f2 := ⟨by simpa using heap_alloc_new W _, hB.size⟩
end Go.Proofs.Ytdjpelcdijpihaa.PrintF
