/- A part of the proof of the claim: what it uses of the text HandRefC. -/
import Derived.Test.YtdjpelcdijpihaaShort
import Derived.Test.YtdjpelcdijpihaaXHandRefB
namespace Go.Proofs.Ytdjpelcdijpihaa.PrintF
open Go.RowKit Go.Proofs.Ytdjpelcdijpihaa.Print Go.Proofs.YtdjpelcdijpihaaW.PrintWords Go.Proofs.YtdjpelcdijpihaaW.PrintLast Go.Lib
set_option linter.unusedVariables false
set_option linter.unusedSimpArgs false
def refNode (x : S105) : ByteArray × Bool := if (noB x.f0 || x.f3.any noB) = true then (⟨#[]⟩, false) else (strB (nodeB x), true)
theorem boxT {w0 W W' : World} {g : Nat} {cs : Array Value} {t : TypeId} (h : Hid (W.heap[g]? = some (.cells cs t (0, 0)) ∧ Below w0.heap.size w0 W)) (k : Below W.heap.size W W') : Hid (W'.heap[g]? = some (.cells cs t (0, 0)) ∧ Below w0.heap.size w0 W') :=
 ⟨blk_below h.out.1 k, below_step h.out.2 k⟩
theorem boxD {w0 W : World} {g : Nat} {cs : Array Value} {t : TypeId} (h : Hid (W.heap[g]? = some (.cells cs t (0, 0)) ∧ Below w0.heap.size w0 W)) : Hid (W.drew.heap[g]? = some (.cells cs t (0, 0)) ∧ Below w0.heap.size w0 W.drew) :=
 ⟨h.out.1, below_drew1 h.out.2⟩
set_option maxHeartbeats 8000000 in
set_option maxRecDepth 100000 in
theorem refNode_calls (x : S105) (A1 A2 A3 : Option Addr) (c1 c2 c3 : Nat) (w : World) (g1 : (Kd.int .i64).C w A1 x.f1.length x.f1) (g2 : Kd.string.C w A2 x.f2.length x.f2) (g3 : (Kd.int .i64).C w A3 x.f3.length x.f3)
  (hng : ∀ v ∈ x.f1, -9223372036854775808 ≤ v ∧ v ≤ 9223372036854775807) (hlen : (nodeB x).length ≤ 140737488355328) :
  Calls Try.prog 82 #[.agg #[.int .i64 x.f0, .slice A1 x.f1.length c1, .slice A2 x.f2.length c2, .slice A3 x.f3.length c3]] w fun e w' => e = .returned (.tuple #[.string (refNode x).1, .bool (refNode x).2]) ∧ Below w.heap.size w w' := by
 obtain ⟨k, l1, l2, l3⟩ := x
 dsimp only at *
 have G1 := Lib.hid g1
 have G2 := Lib.hid g2
 have G3 := Lib.hid g3
 have LL1 : Hid (l1.length ≤ 9223372036854775807) := Lib.hid g1.2.1
 have LL2 : Hid (l2.length ≤ 9223372036854775807) := Lib.hid g2.2.1
 have LL3 : Hid (l3.length ≤ 9223372036854775807) := Lib.hid g3.2.1
 have HNg := Lib.hid hng
 obtain ⟨T, hT⟩ : ∃ T, nodeB ⟨k, l1, l2, l3⟩ = T := ⟨_, rfl⟩
 obtain ⟨R, hR⟩ : ∃ R, R = refNode ⟨k, l1, l2, l3⟩ := ⟨_, rfl⟩
 rw [← hR]
 have HR := Lib.hid hR
 have LT : T.length ≤ 140737488355328 := by rw [← hT]; exact hlen
 have HT0 := Lib.hid hT
 rw [nodeB] at hT
 dsimp only at hT
 have HT_ := Lib.hid hT
 clear g1 g2 g3 hng hT hlen hR
 have BY_ : Hid ((w.alloc (.cells #[.int .i64 k, .slice A1 l1.length c1, .slice A2 l2.length c2, .slice A3 l3.length c3] 105)).heap[w.heap.size]? = some (.cells #[.int .i64 k, .slice A1 l1.length c1, .slice A2 l2.length c2, .slice A3 l3.length c3] 105 (0, 0)) ∧ Below w.heap.size w (w.alloc (.cells #[.int .i64 k, .slice A1 l1.length c1, .slice A2 l2.length c2, .slice A3 l3.length c3] 105))) := Lib.hid ⟨heap_alloc_new w _, (Below.refl _ _).alloc (Nat.le_refl _) _⟩
 cases hq : noB k with
 | true =>
  go_enter Try.func82, Try.ntmps82
  go_wp2_with (go_at_call 79; refine (fits_calls _ _).mono ?_; rintro e w2 ⟨rfl, rfl⟩)
  have BX_ := BY_
  have hE : R = (⟨#[]⟩, false) := by rw [HR.out, refNode, if_pos (by dsimp only; rw [hq]; rfl)]
  go_ret2
  exact ⟨retPair hE, BX_.out.2⟩
 | false =>
  go_enter Try.func82, Try.ntmps82
  go_wp2_with (go_at_call 79; refine (fits_calls _ _).mono ?_; rintro e w2 ⟨rfl, rfl⟩)
  obtain ⟨g, hgX⟩ : ∃ g, g = w.heap.size := ⟨_, rfl⟩
  rw [← hgX]
  generalize w.alloc (.cells #[.int .i64 k, .slice A1 l1.length c1, .slice A2 l2.length c2, .slice A3 l3.length c3] 105) = W at BY_ ⊢
  have BX_ : Hid (W.heap[g]? = some (.cells #[.int .i64 k, .slice A1 l1.length c1, .slice A2 l2.length c2, .slice A3 l3.length c3] 105 (0, 0)) ∧ Below w.heap.size w W) := by rw [hgX]; exact BY_
  clear BY_ hgX
  have hTl := pre_len HT_.out
  have xa : (9223372036854775807 < (strB (numB k)).size + (strB (numB (l1.length : Int))).size) = False := eq_false (by rw [strB_size, strB_size]; have := numB_len k; have := numB_len (l1.length : Int); omega)
  have BD := boxD BX_
  clear BX_
  have BX_ := BD
  clear BD
  have z0 : W.drew.cell? ⟨g, 0, none⟩ = some (.int .i64 k) := (blk_cell BX_.out.1 0).trans rfl
  have z1 : W.drew.cell? ⟨g, 1, none⟩ = some (.slice A1 l1.length c1) := (blk_cell BX_.out.1 1).trans rfl
  clear z0 z1
  skip
  refine wp_region_held_drew (S := fun w' => w'.cell? ⟨g, 0, none⟩ = some (.int .i64 k) ∧ w'.cell? ⟨g, 1, none⟩ = some (.slice A1 l1.length c1)) (by kernel_rfl) ⟨(blk_cell BX_.out.1 0).trans rfl, (blk_cell BX_.out.1 1).trans rfl⟩ (fun hHeld => ?_)
  refine tkz 0 rfl ?_ (.inl ⟨by rfl, ?_⟩) ?_
  rotate_left 1
  ·intro w hSw
   obtain ⟨s0, s1⟩ := hSw
   go_simp
   (try with_reducible rfl)
  (try simp only [Act.put, zq1, zq2, zq3, zq4, zq5, zq6])
  refine tkz 1 rfl ?_ (.inl ⟨by rfl, ?_⟩) ?_
  rotate_left 1
  ·intro w hSw
   obtain ⟨s0, s1⟩ := hSw
   go_simp
   (try with_reducible rfl)
  (try simp only [Act.put, zq1, zq2, zq3, zq4, zq5, zq6])
  refine tkz 3 rfl ?_ (.inl ⟨by rfl, ?_⟩) ?_
  rotate_left 1
  ·intro w hSw
   obtain ⟨s0, s1⟩ := hSw
   go_simp
   (try with_reducible rfl)
  (try simp only [Act.put, zq1, zq2, zq3, zq4, zq5, zq6])
  refine tkz 4 rfl ?_ (.inl ⟨by rfl, ?_⟩) ?_
  rotate_left 1
  ·intro w hSw
   obtain ⟨s0, s1⟩ := hSw
   go_simp
   (try with_reducible rfl)
  (try simp only [Act.put, zq1, zq2, zq3, zq4, zq5, zq6])
  refine tkz 5 rfl ?_ (.inl ⟨by rfl, ?_⟩) ?_
  rotate_left 1
  ·intro w hSw
   obtain ⟨s0, s1⟩ := hSw
   go_simp
   (try with_reducible rfl)
  (try simp only [Act.put, zq1, zq2, zq3, zq4, zq5, zq6])
  refine wpAnyH_ready (rs := [2]) (by kernel_rfl) (by simp) ?_
  refine AllReadyH.cons (o := _) rfl (fun K hK => ?_) AllReadyH.nil
  go_simp
  go_at_call 60
  refine (num_calls (k) _).mono ?_
  rintro e w3 ⟨rfl, hb_⟩
  have BZ := boxT BX_ hb_
  clear BX_ hb_
  have BX_ := BZ
  clear BZ
  refine hK.out _ _ ⟨(blk_cell BX_.out.1 0).trans rfl, (blk_cell BX_.out.1 1).trans rfl⟩ (fun hHeld => ?_)
  clear hK K
  (try simp only [Act.put, zq1, zq2, zq3, zq4, zq5, zq6])
  refine wpAnyH_ready (rs := [6]) (by kernel_rfl) (by simp) ?_
  refine AllReadyH.cons (o := _) rfl (fun K hK => ?_) AllReadyH.nil
  go_simp
  go_at_call 60
  refine (num_calls (l1.length) _).mono ?_
  rintro e w4 ⟨rfl, hb_⟩
  have BZ := boxT BX_ hb_
  clear BX_ hb_
  have BX_ := BZ
  clear BZ
  refine hK.out _ _ ⟨(blk_cell BX_.out.1 0).trans rfl, (blk_cell BX_.out.1 1).trans rfl⟩ (fun hHeld => ?_)
  clear hK K
  (try simp only [Act.put, zq1, zq2, zq3, zq4, zq5, zq6])
  refine tkz 7 rfl ?_ (.inl ⟨by rfl, ?_⟩) ?_
  rotate_left 1
  ·intro w hSw
   obtain ⟨s0, s1⟩ := hSw
   go_simp
   (try with_reducible rfl)
  (try simp only [Act.put, zq1, zq2, zq3, zq4, zq5, zq6])
  refine tkz 8 rfl ?_ (.inl ⟨by rfl, ?_⟩) ?_
  rotate_left 1
  ·intro w hSw
   obtain ⟨s0, s1⟩ := hSw
   go_simp
   (try with_reducible rfl)
  (try simp only [Act.put, zq1, zq2, zq3, zq4, zq5, zq6])
  refine wpAnyH_done (by kernel_rfl) ?_ _
  have hTn : (numB k ++ numB (l1.length : Int)) ++ (l1.flatMap sgnB ++ (numB l2.length ++ (l2.flatMap txtB ++ (numB l3.length ++ l3.flatMap numB)))) = T := by rw [List.append_assoc]; exact HT_.out
  clear HT_
  have HT_ := Lib.hid hTn
  clear hTn
  obtain ⟨R1, hR1⟩ : ∃ R1, R1 = numB l2.length ++ (l2.flatMap txtB ++ (numB l3.length ++ l3.flatMap numB)) := ⟨_, rfl⟩
  rw [← hR1] at HT_
  have HR1 := Lib.hid hR1
  clear hR1 xa
  have z1 : w4.cell? ⟨g, 1, none⟩ = some (.slice A1 l1.length c1) := (blk_cell BX_.out.1 1).trans rfl
  go_wp2_with fail
  go_loopw [4, 5] (fun s i wr => ∃ n : Nat, n ≤ l1.length ∧ i = .int .i64 n ∧ ∃ acc, s = .string (strB acc) ∧ Hid (wr.heap[g]? = some (.cells #[.int .i64 k, .slice A1 l1.length c1, .slice A2 l2.length c2, .slice A3 l3.length c3] 105 (0, 0)) ∧ Below w.heap.size w wr) ∧ Hid (acc ++ ((l1.drop n).flatMap sgnB ++ R1) = T)) (fun _ i _ => l1.length - (intOf i).toNat)
  case atStart => exact ⟨0, Nat.zero_le _, rfl, _, by rw [strB_app], BX_, HT_⟩
  case round =>
   obtain ⟨n, hn, rfl, acc, rfl, BX_, HT_⟩ := hrel
   have z1 : wr.cell? ⟨g, 1, none⟩ = some (.slice A1 l1.length c1) := (blk_cell BX_.out.1 1).trans rfl
   by_cases hlt : n < l1.length
   ·have hd : decide ((n : Int) < (l1.length : Int)) = true := decide_eq_true (by omega)
    have HLT := Lib.hid hlt
    obtain ⟨ad, hA, hc0⟩ := int_at (Kd.C_below G1.out BX_.out.2) hlt
    subst hA
    have hdr : l1.drop n = l1[n] :: l1.drop (n + 1) := List.drop_eq_getElem_cons hlt
    rw [hdr, List.flatMap_cons, List.append_assoc] at HT_
    clear hdr
    have hrg := HNg.out _ (List.getElem_mem hlt)
    generalize l1[n] = v at hc0 HT_ hrg
    clear hn hlt
    have HRG := Lib.hid hrg
    clear hrg
    have xo : (9223372036854775807 < (strB acc).size + (strB (sgnB v)).size) = False := eq_false (by rw [strB_size, strB_size]; have := pre_len HT_.out; have : (sgnB v).length ≤ 10 := numB_len (zigN v); omega)
    go_wp2_with (go_at_call 105; refine (signed_calls _ HRG.out _).mono ?_; rintro e w5 ⟨rfl, hb_⟩; have BZ := boxT BX_ hb_)
    go_roundw
    case rel => exact ⟨n + 1, HLT.out, by rw [wrap_succ HLT.out LL1.out], _, by rw [strB_app], BZ, Lib.hid (by rw [List.append_assoc]; exact HT_.out)⟩
    case measure => rw [wrap_succ HLT.out LL1.out]; have := HLT.out; simp [intOf]; omega
   ·obtain rfl : n = l1.length := by omega
    have hd : decide ((l1.length : Int) < (l1.length : Int)) = false := decide_eq_false (by omega)
    rw [List.drop_of_length_le (Nat.le_refl _), List.flatMap_nil, List.nil_append, HR1.out] at HT_
    clear HR1 hlt hn
    have z2 : wr.cell? ⟨g, 2, none⟩ = some (.slice A2 l2.length c2) := (blk_cell BX_.out.1 2).trans rfl
    have xo : (9223372036854775807 < (strB acc).size + (strB (numB (l2.length : Int))).size) = False := eq_false (by rw [strB_size, strB_size]; have := pre_len HT_.out; have := numB_len (l2.length : Int); omega)
    go_wp2_with (go_at_call 60; refine (num_calls _ _).mono ?_; rintro e w6 ⟨rfl, hb_⟩; have BZ := boxT BX_ hb_; have z2 : w6.cell? ⟨g, 2, none⟩ = some (.slice A2 l2.length c2) := (blk_cell BZ.out.1 2).trans rfl)
    have hTn : (acc ++ numB (l2.length : Int)) ++ (l2.flatMap txtB ++ (numB l3.length ++ l3.flatMap numB)) = T := by rw [List.append_assoc]; exact HT_.out
    clear HT_ BX_
    have HT_ := Lib.hid hTn
    clear hTn
    have BX_ := BZ
    clear BZ xo
    obtain ⟨R2, hR2⟩ : ∃ R2, R2 = numB l3.length ++ l3.flatMap numB := ⟨_, rfl⟩
    rw [← hR2] at HT_
    have HR2 := Lib.hid hR2
    clear hR2
    go_wp2_with fail
    go_loopw [4, 6] (fun s i wr => ∃ n : Nat, n ≤ l2.length ∧ i = .int .i64 n ∧ ∃ acc, s = .string (strB acc) ∧ Hid (wr.heap[g]? = some (.cells #[.int .i64 k, .slice A1 l1.length c1, .slice A2 l2.length c2, .slice A3 l3.length c3] 105 (0, 0)) ∧ Below w.heap.size w wr) ∧ Hid (acc ++ ((l2.drop n).flatMap txtB ++ R2) = T)) (fun _ i _ => l2.length - (intOf i).toNat)
    case atStart => exact ⟨0, Nat.zero_le _, rfl, _, by rw [strB_app], BX_, HT_⟩
    case round =>
     obtain ⟨n, hn, rfl, acc, rfl, BX_, HT_⟩ := hrel
     have z2 : wr.cell? ⟨g, 2, none⟩ = some (.slice A2 l2.length c2) := (blk_cell BX_.out.1 2).trans rfl
     by_cases hlt : n < l2.length
     ·have hd : decide ((n : Int) < (l2.length : Int)) = true := decide_eq_true (by omega)
      have HLT := Lib.hid hlt
      obtain ⟨ad, hA, hc0⟩ := str_at (Kd.C_below G2.out BX_.out.2) hlt
      subst hA
      have hdr : l2.drop n = l2[n] :: l2.drop (n + 1) := List.drop_eq_getElem_cons hlt
      rw [hdr, List.flatMap_cons, List.append_assoc] at HT_
      clear hdr
      generalize l2[n] = v at hc0 HT_
      clear hn hlt
      have hTl := pre_len HT_.out
      rw [List.length_append] at hTl
      have hv := txt_len v
      have hvn := numB_len (v.size : Int)
      have xa : (9223372036854775807 < (strB (numB (v.size : Int))).size + v.size) = False := eq_false (by rw [strB_size]; omega)
      have xo : (9223372036854775807 < (strB acc).size + ((strB (numB (v.size : Int))).size + v.size)) = False := eq_false (by rw [strB_size, strB_size]; omega)
      clear hTl hv hvn
      have e0 : wr.drew.cell? (ad.add n) = some (.string v) := hc0
      clear hc0
      go_wp2_with fail
      have BD := boxD BX_
      clear BX_
      have BX_ := BD
      clear BD
      refine wp_region_held_drew (S := fun w' => w'.cell? ⟨g, 2, none⟩ = some (.slice (some ad) l2.length c2) ∧ w'.cell? (ad.add n) = some (.string v)) (by kernel_rfl) ⟨(blk_cell BX_.out.1 2).trans rfl, e0⟩ (fun hHeld => ?_)
      refine tkz 0 rfl ?_ (.inl ⟨by rfl, ?_⟩) ?_
      rotate_left 1
      ·intro w hSw
       obtain ⟨s0, s1⟩ := hSw
       go_simp
       (try with_reducible rfl)
      (try simp only [Act.put, zq1, zq2, zq3, zq4, zq5, zq6])
      refine tkz 1 rfl ?_ (.inl ⟨by rfl, ?_⟩) ?_
      rotate_left 1
      ·intro w hSw
       obtain ⟨s0, s1⟩ := hSw
       go_simp
       (try with_reducible rfl)
      (try simp only [Act.put, zq1, zq2, zq3, zq4, zq5, zq6])
      refine tkz 2 rfl ?_ (.inl ⟨by rfl, ?_⟩) ?_
      rotate_left 1
      ·intro w hSw
       obtain ⟨s0, s1⟩ := hSw
       go_simp
       (try with_reducible rfl)
      (try simp only [Act.put, zq1, zq2, zq3, zq4, zq5, zq6])
      refine tkz 3 rfl ?_ (.inl ⟨by rfl, ?_⟩) ?_
      rotate_left 1
      ·intro w hSw
       obtain ⟨s0, s1⟩ := hSw
       go_simp
       (try with_reducible rfl)
      (try simp only [Act.put, zq1, zq2, zq3, zq4, zq5, zq6])
      refine tkz 4 rfl ?_ (.inl ⟨by rfl, ?_⟩) ?_
      rotate_left 1
      ·intro w hSw
       obtain ⟨s0, s1⟩ := hSw
       go_simp
       (try with_reducible rfl)
      (try simp only [Act.put, zq1, zq2, zq3, zq4, zq5, zq6])
      refine tkz 5 rfl ?_ (.inl ⟨by rfl, ?_⟩) ?_
      rotate_left 1
      ·intro w hSw
       obtain ⟨s0, s1⟩ := hSw
       go_simp
       (try with_reducible rfl)
      (try simp only [Act.put, zq1, zq2, zq3, zq4, zq5, zq6])
      refine tkz 6 rfl ?_ (.inl ⟨by rfl, ?_⟩) ?_
      rotate_left 1
      ·intro w hSw
       obtain ⟨s0, s1⟩ := hSw
       go_simp
       (try with_reducible rfl)
      (try simp only [Act.put, zq1, zq2, zq3, zq4, zq5, zq6])
      refine tkz 8 rfl ?_ (.inl ⟨by rfl, ?_⟩) ?_
      rotate_left 1
      ·intro w hSw
       obtain ⟨s0, s1⟩ := hSw
       go_simp
       (try with_reducible rfl)
      (try simp only [Act.put, zq1, zq2, zq3, zq4, zq5, zq6])
      refine tkz 9 rfl ?_ (.inl ⟨by rfl, ?_⟩) ?_
      rotate_left 1
      ·intro w hSw
       obtain ⟨s0, s1⟩ := hSw
       go_simp
       (try with_reducible rfl)
      (try simp only [Act.put, zq1, zq2, zq3, zq4, zq5, zq6])
      refine tkz 10 rfl ?_ (.inl ⟨by rfl, ?_⟩) ?_
      rotate_left 1
      ·intro w hSw
       obtain ⟨s0, s1⟩ := hSw
       go_simp
       (try with_reducible rfl)
      (try simp only [Act.put, zq1, zq2, zq3, zq4, zq5, zq6])
      refine tkz 11 rfl ?_ (.inl ⟨by rfl, ?_⟩) ?_
      rotate_left 1
      ·intro w hSw
       obtain ⟨s0, s1⟩ := hSw
       go_simp
       (try with_reducible rfl)
      (try simp only [Act.put, zq1, zq2, zq3, zq4, zq5, zq6])
      refine tkz 12 rfl ?_ (.inl ⟨by rfl, ?_⟩) ?_
      rotate_left 1
      ·intro w hSw
       obtain ⟨s0, s1⟩ := hSw
       go_simp
       (try with_reducible rfl)
      (try simp only [Act.put, zq1, zq2, zq3, zq4, zq5, zq6])
      refine wpAnyH_ready (rs := [7]) (by kernel_rfl) (by simp) ?_
      refine AllReadyH.cons (o := _) rfl (fun K hK => ?_) AllReadyH.nil
      go_simp
      go_at_call 60
      refine (num_calls (v.size) _).mono ?_
      rintro e w7 ⟨rfl, hb_⟩
      have BZ := boxT BX_ hb_
      have e0_ := pw_cell_below hb_ e0
      clear e0
      have e0 := e0_
      clear e0_
      clear BX_ hb_
      have BX_ := BZ
      clear BZ
      refine hK.out _ _ ⟨(blk_cell BX_.out.1 2).trans rfl, e0⟩ (fun hHeld => ?_)
      clear hK K
      (try simp only [Act.put, zq1, zq2, zq3, zq4, zq5, zq6])
      refine tkz 13 rfl ?_ (.inl ⟨by rfl, ?_⟩) ?_
      rotate_left 1
      ·intro w hSw
       obtain ⟨s0, s1⟩ := hSw
       go_simp
       (try with_reducible rfl)
      (try simp only [Act.put, zq1, zq2, zq3, zq4, zq5, zq6])
      refine tkz 14 rfl ?_ (.inl ⟨by rfl, ?_⟩) ?_
      rotate_left 1
      ·intro w hSw
       obtain ⟨s0, s1⟩ := hSw
       go_simp
       (try with_reducible rfl)
      (try simp only [Act.put, zq1, zq2, zq3, zq4, zq5, zq6])
      refine tkz 15 rfl ?_ (.inl ⟨by rfl, ?_⟩) ?_
      rotate_left 1
      ·intro w hSw
       obtain ⟨s0, s1⟩ := hSw
       go_simp
       (try with_reducible rfl)
      (try simp only [Act.put, zq1, zq2, zq3, zq4, zq5, zq6])
      refine wpAnyH_done (by kernel_rfl) ?_ _
      go_wp2_with fail
      go_roundw
      case rel => exact ⟨n + 1, HLT.out, by rw [wrap_succ HLT.out LL2.out], acc ++ txtB v, by show Value.string (strB acc ++ (strB (numB v.size) ++ strB v.data.toList)) = _; simp only [strB_app, txtB, List.append_assoc], BX_, Lib.hid (by rw [List.append_assoc]; exact HT_.out)⟩
      case measure => rw [wrap_succ HLT.out LL2.out]; have := HLT.out; simp [intOf]; omega
     ·obtain rfl : n = l2.length := by omega
      have hd : decide ((l2.length : Int) < (l2.length : Int)) = false := decide_eq_false (by omega)
      rw [List.drop_of_length_le (Nat.le_refl _), List.flatMap_nil, List.nil_append, HR2.out] at HT_
      clear HR2 hlt hn
      have z3 : wr.cell? ⟨g, 3, none⟩ = some (.slice A3 l3.length c3) := (blk_cell BX_.out.1 3).trans rfl
      have xo : (9223372036854775807 < (strB acc).size + (strB (numB (l3.length : Int))).size) = False := eq_false (by rw [strB_size, strB_size]; have := pre_len HT_.out; have := numB_len (l3.length : Int); omega)
      go_wp2_with (go_at_call 60; refine (num_calls _ _).mono ?_; rintro e w6 ⟨rfl, hb_⟩; have BZ := boxT BX_ hb_; have z3 : w6.cell? ⟨g, 3, none⟩ = some (.slice A3 l3.length c3) := (blk_cell BZ.out.1 3).trans rfl)
      have hTn : (acc ++ numB (l3.length : Int)) ++ l3.flatMap numB = T := by rw [List.append_assoc]; exact HT_.out
      clear HT_ BX_
      have HT_ := Lib.hid hTn
      clear hTn
      have BX_ := BZ
      clear BZ xo
      have hTn : (acc ++ numB (l3.length : Int)) ++ (l3.flatMap numB ++ []) = T := by rw [List.append_nil]; exact HT_.out
      clear HT_
      have HT_ := Lib.hid hTn
      clear hTn
      go_wp2_with fail
      go_loopw [2, 3, 4, 7] (fun a b s i wr => a = .string ⟨#[]⟩ ∧ b = .bool false ∧ ∃ n : Nat, n ≤ l3.length ∧ i = .int .i64 n ∧ ∃ acc, s = .string (strB acc) ∧ Hid (wr.heap[g]? = some (.cells #[.int .i64 k, .slice A1 l1.length c1, .slice A2 l2.length c2, .slice A3 l3.length c3] 105 (0, 0)) ∧ Below w.heap.size w wr) ∧ Hid (acc ++ ((l3.drop n).flatMap numB ++ []) = T) ∧ Hid ((l3.drop n).any noB = l3.any noB)) (fun _ _ _ i _ => l3.length - (intOf i).toNat)
      case atStart => exact ⟨rfl, rfl, 0, Nat.zero_le _, rfl, _, by rw [strB_app], BX_, HT_, Lib.hid rfl⟩
      case round =>
       obtain ⟨rfl, rfl, n, hn, rfl, acc, rfl, BX_, HT_, HF_⟩ := hrel
       have z3 : wr.cell? ⟨g, 3, none⟩ = some (.slice A3 l3.length c3) := (blk_cell BX_.out.1 3).trans rfl
       by_cases hlt : n < l3.length
       ·have hd : decide ((n : Int) < (l3.length : Int)) = true := decide_eq_true (by omega)
        have HLT := Lib.hid hlt
        obtain ⟨ad, hA, hc0⟩ := int_at (Kd.C_below G3.out BX_.out.2) hlt
        subst hA
        have hdr : l3.drop n = l3[n] :: l3.drop (n + 1) := List.drop_eq_getElem_cons hlt
        rw [hdr, List.flatMap_cons, List.append_assoc] at HT_
        rw [hdr, List.any_cons] at HF_
        clear hdr
        generalize l3[n] = v at hc0 HT_ HF_
        clear hn hlt
        have xo : (9223372036854775807 < (strB acc).size + (strB (numB v)).size) = False := eq_false (by rw [strB_size, strB_size]; have := pre_len HT_.out; have := numB_len v; omega)
        cases hq2 : noB v with
        | true =>
         go_wp2_with (go_at_call 79; refine (fits_calls _ _).mono ?_; rintro e w2 ⟨rfl, rfl⟩)
         have hE : R = (⟨#[]⟩, false) := by rw [HR.out, refNode, if_pos (by dsimp only; rw [← HF_.out, hq2, hq]; rfl)]
         go_ret2
         exact ⟨retPair hE, BX_.out.2⟩
        | false =>
         rw [hq2, Bool.false_or] at HF_
         go_wp2_with (first | (go_at_call 79; refine (fits_calls _ _).mono ?_; rintro e w2 ⟨rfl, rfl⟩) | (go_at_call 60; refine (num_calls _ _).mono ?_; rintro e w7 ⟨rfl, hb_⟩; have BZ := boxT BX_ hb_))
         go_roundw
         case rel => exact ⟨rfl, rfl, n + 1, HLT.out, by rw [wrap_succ HLT.out LL3.out], _, by rw [strB_app], BZ, Lib.hid (by rw [List.append_assoc]; exact HT_.out), HF_⟩
         case measure => rw [wrap_succ HLT.out LL3.out]; have := HLT.out; simp [intOf]; omega
       ·obtain rfl : n = l3.length := by omega
        have hd : decide ((l3.length : Int) < (l3.length : Int)) = false := decide_eq_false (by omega)
        rw [List.drop_of_length_le (Nat.le_refl _), List.flatMap_nil, List.nil_append, List.append_nil] at HT_
        rw [List.drop_of_length_le (Nat.le_refl _), List.any_nil] at HF_
        have hE : R = (strB acc, true) := by rw [HR.out, refNode, if_neg (by dsimp only; rw [← HF_.out, hq]; exact Bool.false_ne_true), HT0.out, HT_.out]
        go_wp2_with fail
        go_ret2
        exact ⟨retPair hE, BX_.out.2⟩
end Go.Proofs.Ytdjpelcdijpihaa.PrintF
