/- A part of the proof of the claim: what it uses of the text HandOp. -/
import Derived.Test.YtdjpelcdijpihaaZHandEdit
namespace Go.Proofs.Ytdjpelcdijpihaa.PrintF
open Go.RowKit Go.Proofs.Ytdjpelcdijpihaa.Print Go.Proofs.YtdjpelcdijpihaaW.PrintWords Go.Proofs.YtdjpelcdijpihaaW.PrintLast Go.Lib
set_option linter.unusedVariables false
set_option linter.unusedSimpArgs false
def bel (o : S107) : Bool := (patch_belongs.f o.f0 o.f1 o.f2 o.f3 o.f4.f0 o.f4.f1 o.f4.f2 o.f4.f3).getD false
theorem bel_eq (o : S107) : patch_belongs.f o.f0 o.f1 o.f2 o.f3 o.f4.f0 o.f4.f1 o.f4.f2 o.f4.f3 = some (bel o) := by
 have he : ∀ a b c d, ∃ r, patch_empty.f a b c d = some r := by
  intro a b c d
  unfold patch_empty.f
  repeat' split
  all_goals exact ⟨_, rfl⟩
 obtain ⟨r, hr⟩ := he o.f4.f0 o.f4.f1 o.f4.f2 o.f4.f3
 unfold bel patch_belongs.f
 rw [hr]
 repeat' split
 all_goals rfl
def opB (o : S107) : List UInt8 := numB o.f0 ++ (if o.f0 = 3 then nodeB o.f4 else numB o.f1 ++ (if o.f0 = 2 then editsB o.f2 o.f3 else []))
def opNo (o : S107) : Bool := !bel o || (noB o.f0 || (if o.f0 = 3 then nodeNo o.f4 else noB o.f1 || (if o.f0 = 2 then editsNo o.f2 o.f3 else false)))
set_option maxHeartbeats 8000000 in
set_option maxRecDepth 100000 in
theorem op_calls (o : S107) (A2 A3 A5 A6 A7 : Option Addr) (c2 c3 c5 c6 c7 : Nat) (w0 w : World) (b : Nat) (bs : List UInt8) (wb : Bool) (hb0 : Below w0.heap.size w0 w) (h : IsW w0.heap.size b bs wb w)
  (d2 : o.f2.length ≤ c2) (g2 : k127.C w0 A2 o.f2.length o.f2) (d3 : o.f3.length ≤ c3) (g3 : k138.C w0 A3 o.f3.length o.f3) (d5 : o.f4.f1.length ≤ c5) (g5 : (Kd.int .i64).C w0 A5 o.f4.f1.length o.f4.f1)
  (d6 : o.f4.f2.length ≤ c6) (g6 : Kd.string.C w0 A6 o.f4.f2.length o.f4.f2) (d7 : o.f4.f3.length ≤ c7) (g7 : (Kd.int .i64).C w0 A7 o.f4.f3.length o.f4.f3) (hlen : bs.length + (opB o).length + 10 ≤ 140737488355328) :
  Calls Try.prog 59 #[.pointer (some ⟨b, 0, none⟩), .agg #[.int .i64 o.f0, .int .i64 o.f1, .slice A2 o.f2.length c2, .slice A3 o.f3.length c3, .int .i64 o.f4.f0, .slice A5 o.f4.f1.length c5, .slice A6 o.f4.f2.length c6, .slice A7 o.f4.f3.length c7]] w fun e w' => e = .returned (.tuple #[]) ∧ IsW w0.heap.size b (bs ++ opB o) (wb || opNo o) w' ∧ KeepB w0.heap.size b w w' := by
 obtain ⟨kd, bp, l2, l3, ⟨nk, l5, l6, l7⟩⟩ := o
 dsimp only at *
 have N_ := Lib.hid (NS.new #[.int .i64 kd, .int .i64 bp, .slice A2 l2.length c2, .slice A3 l3.length c3, .int .i64 nk, .slice A5 l5.length c5, .slice A6 l6.length c6, .slice A7 l7.length c7] 107 (by decide) h hb0)
 have G2 := Lib.hid g2
 have G3 := Lib.hid g3
 have G5 := Lib.hid g5
 have G6 := Lib.hid g6
 have G7 := Lib.hid g7
 have BE := Lib.hid (bel_eq ⟨kd, bp, l2, l3, ⟨nk, l5, l6, l7⟩⟩)
 have C2 := Lib.hid d2
 have C3 := Lib.hid d3
 have C5 := Lib.hid d5
 have C6 := Lib.hid d6
 have C7 := Lib.hid d7
 obtain ⟨T, hT⟩ : ∃ T, bs ++ opB ⟨kd, bp, l2, l3, ⟨nk, l5, l6, l7⟩⟩ = T := ⟨_, rfl⟩
 obtain ⟨F, hF⟩ : ∃ F, (wb || opNo ⟨kd, bp, l2, l3, ⟨nk, l5, l6, l7⟩⟩) = F := ⟨_, rfl⟩
 rw [hT, hF]
 have LT : T.length + 10 ≤ 140737488355328 := by rw [← hT, List.length_append]; exact hlen
 rw [opB] at hT
 rw [opNo] at hF
 dsimp only at hT hF
 rw [← Bool.or_assoc] at hF
 generalize bel ⟨kd, bp, l2, l3, ⟨nk, l5, l6, l7⟩⟩ = be at hF BE
 have HT_ := Lib.hid hT
 have HFb := Lib.hid hF
 clear g2 g3 g5 g6 g7 d2 d3 d5 d6 d7 h hb0 hT hF hlen
 generalize hgX : w.heap.size = g at N_
 have yc : ∀ j, (w.alloc (.cells #[.int .i64 kd, .int .i64 bp, .slice A2 l2.length c2, .slice A3 l3.length c3, .int .i64 nk, .slice A5 l5.length c5, .slice A6 l6.length c6, .slice A7 l7.length c7] 107)).cell? ⟨g, j, none⟩ = (#[Value.int .i64 kd, .int .i64 bp, .slice A2 l2.length c2, .slice A3 l3.length c3, .int .i64 nk, .slice A5 l5.length c5, .slice A6 l6.length c6, .slice A7 l7.length c7])[j]? := fun j => N_.out.cell j
 have z0 := yc 0
 have z1 := yc 1
 have z2 := yc 2
 have z3 := yc 3
 have z4 := yc 4
 have z5 := yc 5
 have z6 := yc 6
 have z7 := yc 7
 clear yc
 obtain ⟨c_, f_⟩ := N_.out.iw.c2
 go_enter Try.func59, Try.ntmps59
 cases wb
 ·skip
  go_wp2_with fail
  refine (patch_belongs.calls kd bp A2 c2 l2 A3 c3 l3 nk A5 c5 l5 A6 c6 l6 A7 c7 l7 be _ (Kd.C_below G2.out N_.out.bl) C2.out (Kd.C_below G3.out N_.out.bl) C3.out (Kd.C_below G5.out N_.out.bl) C5.out (Kd.C_below G6.out N_.out.bl) C6.out (Kd.C_below G7.out N_.out.bl) C7.out BE.out).mono ?_
  rintro e w1 ⟨rfl, hb1⟩
  have M_ := Lib.hid (N_.out.step (N_.out.iw.below hb1) (KeepB.of_below hb1))
  clear N_ hb1 c_ f_
  have N_ := M_
  clear M_
  obtain ⟨c_, f_⟩ := N_.out.iw.c2
  have z0 : w1.cell? ⟨g, 0, none⟩ = some (.int .i64 kd) := N_.out.cell 0
  have M_ := Lib.hid (N_.out.setw (false || !be))
  have HF_ := HFb
  clear N_ HFb
  have N_ := M_
  clear M_
  go_wp2_with fail
  refine (uint_calls kd N_.out.iw (by have := pre_len HT_.out; omega) N_.out.sz).mono ?_
  rintro e w_ ⟨rfl, i_, k_⟩
  have n_ := Lib.hid (N_.out.step i_ k_)
  have h_ := HT_.out
  rw [← List.append_assoc] at h_
  have t_ := Lib.hid h_
  clear h_
  have h_ := HF_.out
  rw [← Bool.or_assoc] at h_
  have f_ := Lib.hid h_
  clear h_
  clear i_ k_ N_ HT_ HF_
  have N_ := n_
  have HT_ := t_
  have HF_ := f_
  clear n_ t_ f_
  have z0 : w_.cell? ⟨g, 0, none⟩ = some (.int .i64 kd) := N_.out.cell 0
  ·by_cases hk : kd = 3
   ·have t1 : (kd == 3) = true := beq_iff_eq.mpr hk
    have h_ := HT_.out
    rw [if_pos hk] at h_
    have HT2 := Lib.hid h_
    clear h_ HT_
    have h_ := HF_.out
    rw [if_pos hk] at h_
    have HF2 := Lib.hid h_
    clear h_ HF_ hk
    have HT_ := HT2
    have HF_ := HF2
    clear HT2 HF2
    have z4 : w_.cell? ⟨g, 4, none⟩ = some (.int .i64 nk) := N_.out.cell 4
    have z5 : w_.cell? ⟨g, 5, none⟩ = some (.slice A5 l5.length c5) := N_.out.cell 5
    have z6 : w_.cell? ⟨g, 6, none⟩ = some (.slice A6 l6.length c6) := N_.out.cell 6
    have z7 : w_.cell? ⟨g, 7, none⟩ = some (.slice A7 l7.length c7) := N_.out.cell 7
    go_wp2_with fail
    refine (node_calls ⟨nk, l5, l6, l7⟩ A5 A6 A7 c5 c6 c7 w0 _ b _ _ N_.out.bl N_.out.iw G5.out G6.out G7.out (by have := pre_len HT_.out; omega)).mono ?_
    rintro e w_ ⟨rfl, i_, k_⟩
    go_wp2_with fail
    refine bodyPost_ret (results_none rfl _ _ _) rfl ?_
    refine ⟨rfl, ?_, N_.out.kb.trans k_⟩
    rw [HT_.out, HF_.out] at i_
    exact i_
   ·have t1 : (kd == 3) = false := beq_eq_false_iff_ne.mpr hk
    have h_ := HT_.out
    rw [if_neg hk] at h_
    have HT2 := Lib.hid h_
    clear h_ HT_
    have h_ := HF_.out
    rw [if_neg hk] at h_
    have HF2 := Lib.hid h_
    clear h_ HF_ hk
    have HT_ := HT2
    have HF_ := HF2
    clear HT2 HF2
    have z1 : w_.cell? ⟨g, 1, none⟩ = some (.int .i64 bp) := N_.out.cell 1
    go_wp2_with fail
    refine (uint_calls bp N_.out.iw (by have := pre_len HT_.out; simp only [List.length_append] at this ⊢; omega) N_.out.sz).mono ?_
    rintro e w_ ⟨rfl, i_, k_⟩
    have n_ := Lib.hid (N_.out.step i_ k_)
    have h_ := HT_.out
    rw [← List.append_assoc] at h_
    have t_ := Lib.hid h_
    clear h_
    have h_ := HF_.out
    rw [← Bool.or_assoc] at h_
    have f_ := Lib.hid h_
    clear h_
    clear i_ k_ N_ HT_ HF_
    have N_ := n_
    have HT_ := t_
    have HF_ := f_
    clear n_ t_ f_
    have z0 : w_.cell? ⟨g, 0, none⟩ = some (.int .i64 kd) := N_.out.cell 0
    ·by_cases hk2 : kd = 2
     ·have t2 : (kd == 2) = true := beq_iff_eq.mpr hk2
      have h_ := HT_.out
      rw [if_pos hk2] at h_
      have HT2 := Lib.hid h_
      clear h_ HT_
      have h_ := HF_.out
      rw [if_pos hk2] at h_
      have HF2 := Lib.hid h_
      clear h_ HF_ hk2
      have HT_ := HT2
      have HF_ := HF2
      clear HT2 HF2
      have z1 : w_.cell? ⟨g, 1, none⟩ = some (.int .i64 bp) := N_.out.cell 1
      have z2 : w_.cell? ⟨g, 2, none⟩ = some (.slice A2 l2.length c2) := N_.out.cell 2
      have z3 : w_.cell? ⟨g, 3, none⟩ = some (.slice A3 l3.length c3) := N_.out.cell 3
      have z4 : w_.cell? ⟨g, 4, none⟩ = some (.int .i64 nk) := N_.out.cell 4
      have z5 : w_.cell? ⟨g, 5, none⟩ = some (.slice A5 l5.length c5) := N_.out.cell 5
      have z6 : w_.cell? ⟨g, 6, none⟩ = some (.slice A6 l6.length c6) := N_.out.cell 6
      have z7 : w_.cell? ⟨g, 7, none⟩ = some (.slice A7 l7.length c7) := N_.out.cell 7
      go_wp2_with fail
      refine (edit_calls kd bp nk l2 l3 A2 A3 A5 A6 A7 c2 c3 l5.length c5 l6.length c6 l7.length c7 w0 _ b _ _ N_.out.bl N_.out.iw G2.out G3.out (by have := pre_len HT_.out; omega)).mono ?_
      rintro e w_ ⟨rfl, i_, k_⟩
      go_wp2_with fail
      go_end0
      refine ⟨rfl, ?_, N_.out.kb.trans k_⟩
      rw [HT_.out, HF_.out] at i_
      exact i_
     ·have t2 : (kd == 2) = false := beq_eq_false_iff_ne.mpr hk2
      have h_ := HT_.out
      rw [if_neg hk2, List.append_nil] at h_
      have HT2 := Lib.hid h_
      clear h_ HT_
      have h_ := HF_.out
      rw [if_neg hk2, Bool.or_false] at h_
      have HF2 := Lib.hid h_
      clear h_ HF_ hk2
      have HT_ := HT2
      have HF_ := HF2
      clear HT2 HF2
      go_wp2_with fail
      go_end0
      refine ⟨rfl, ?_, N_.out.kb⟩
      rw [← HT_.out, ← HF_.out]
      exact N_.out.iw
 ·skip
  have M_ := Lib.hid (N_.out.setw (true || !be))
  have HF_ := HFb
  clear N_ HFb
  have N_ := M_
  clear M_
  go_wp2_with fail
  refine (uint_calls kd N_.out.iw (by have := pre_len HT_.out; omega) N_.out.sz).mono ?_
  rintro e w_ ⟨rfl, i_, k_⟩
  have n_ := Lib.hid (N_.out.step i_ k_)
  have h_ := HT_.out
  rw [← List.append_assoc] at h_
  have t_ := Lib.hid h_
  clear h_
  have h_ := HF_.out
  rw [← Bool.or_assoc] at h_
  have f_ := Lib.hid h_
  clear h_
  clear i_ k_ N_ HT_ HF_
  have N_ := n_
  have HT_ := t_
  have HF_ := f_
  clear n_ t_ f_
  have z0 : w_.cell? ⟨g, 0, none⟩ = some (.int .i64 kd) := N_.out.cell 0
  ·by_cases hk : kd = 3
   ·have t1 : (kd == 3) = true := beq_iff_eq.mpr hk
    have h_ := HT_.out
    rw [if_pos hk] at h_
    have HT2 := Lib.hid h_
    clear h_ HT_
    have h_ := HF_.out
    rw [if_pos hk] at h_
    have HF2 := Lib.hid h_
    clear h_ HF_ hk
    have HT_ := HT2
    have HF_ := HF2
    clear HT2 HF2
    have z4 : w_.cell? ⟨g, 4, none⟩ = some (.int .i64 nk) := N_.out.cell 4
    have z5 : w_.cell? ⟨g, 5, none⟩ = some (.slice A5 l5.length c5) := N_.out.cell 5
    have z6 : w_.cell? ⟨g, 6, none⟩ = some (.slice A6 l6.length c6) := N_.out.cell 6
    have z7 : w_.cell? ⟨g, 7, none⟩ = some (.slice A7 l7.length c7) := N_.out.cell 7
    go_wp2_with fail
    refine (node_calls ⟨nk, l5, l6, l7⟩ A5 A6 A7 c5 c6 c7 w0 _ b _ _ N_.out.bl N_.out.iw G5.out G6.out G7.out (by have := pre_len HT_.out; omega)).mono ?_
    rintro e w_ ⟨rfl, i_, k_⟩
    go_wp2_with fail
    refine bodyPost_ret (results_none rfl _ _ _) rfl ?_
    refine ⟨rfl, ?_, N_.out.kb.trans k_⟩
    rw [HT_.out, HF_.out] at i_
    exact i_
   ·have t1 : (kd == 3) = false := beq_eq_false_iff_ne.mpr hk
    have h_ := HT_.out
    rw [if_neg hk] at h_
    have HT2 := Lib.hid h_
    clear h_ HT_
    have h_ := HF_.out
    rw [if_neg hk] at h_
    have HF2 := Lib.hid h_
    clear h_ HF_ hk
    have HT_ := HT2
    have HF_ := HF2
    clear HT2 HF2
    have z1 : w_.cell? ⟨g, 1, none⟩ = some (.int .i64 bp) := N_.out.cell 1
    go_wp2_with fail
    refine (uint_calls bp N_.out.iw (by have := pre_len HT_.out; simp only [List.length_append] at this ⊢; omega) N_.out.sz).mono ?_
    rintro e w_ ⟨rfl, i_, k_⟩
    have n_ := Lib.hid (N_.out.step i_ k_)
    have h_ := HT_.out
    rw [← List.append_assoc] at h_
    have t_ := Lib.hid h_
    clear h_
    have h_ := HF_.out
    rw [← Bool.or_assoc] at h_
    have f_ := Lib.hid h_
    clear h_
    clear i_ k_ N_ HT_ HF_
    have N_ := n_
    have HT_ := t_
    have HF_ := f_
    clear n_ t_ f_
    have z0 : w_.cell? ⟨g, 0, none⟩ = some (.int .i64 kd) := N_.out.cell 0
    ·by_cases hk2 : kd = 2
     ·have t2 : (kd == 2) = true := beq_iff_eq.mpr hk2
      have h_ := HT_.out
      rw [if_pos hk2] at h_
      have HT2 := Lib.hid h_
      clear h_ HT_
      have h_ := HF_.out
      rw [if_pos hk2] at h_
      have HF2 := Lib.hid h_
      clear h_ HF_ hk2
      have HT_ := HT2
      have HF_ := HF2
      clear HT2 HF2
      have z1 : w_.cell? ⟨g, 1, none⟩ = some (.int .i64 bp) := N_.out.cell 1
      have z2 : w_.cell? ⟨g, 2, none⟩ = some (.slice A2 l2.length c2) := N_.out.cell 2
      have z3 : w_.cell? ⟨g, 3, none⟩ = some (.slice A3 l3.length c3) := N_.out.cell 3
      have z4 : w_.cell? ⟨g, 4, none⟩ = some (.int .i64 nk) := N_.out.cell 4
      have z5 : w_.cell? ⟨g, 5, none⟩ = some (.slice A5 l5.length c5) := N_.out.cell 5
      have z6 : w_.cell? ⟨g, 6, none⟩ = some (.slice A6 l6.length c6) := N_.out.cell 6
      have z7 : w_.cell? ⟨g, 7, none⟩ = some (.slice A7 l7.length c7) := N_.out.cell 7
      go_wp2_with fail
      refine (edit_calls kd bp nk l2 l3 A2 A3 A5 A6 A7 c2 c3 l5.length c5 l6.length c6 l7.length c7 w0 _ b _ _ N_.out.bl N_.out.iw G2.out G3.out (by have := pre_len HT_.out; omega)).mono ?_
      rintro e w_ ⟨rfl, i_, k_⟩
      go_wp2_with fail
      go_end0
      refine ⟨rfl, ?_, N_.out.kb.trans k_⟩
      rw [HT_.out, HF_.out] at i_
      exact i_
     ·have t2 : (kd == 2) = false := beq_eq_false_iff_ne.mpr hk2
      have h_ := HT_.out
      rw [if_neg hk2, List.append_nil] at h_
      have HT2 := Lib.hid h_
      clear h_ HT_
      have h_ := HF_.out
      rw [if_neg hk2, Bool.or_false] at h_
      have HF2 := Lib.hid h_
      clear h_ HF_ hk2
      have HT_ := HT2
      have HF_ := HF2
      clear HT2 HF2
      go_wp2_with fail
      go_end0
      refine ⟨rfl, ?_, N_.out.kb⟩
      rw [← HT_.out, ← HF_.out]
      exact N_.out.iw
end Go.Proofs.Ytdjpelcdijpihaa.PrintF
