/- A part of the proof of the claim: what it uses of the text HandRefB. -/
import Derived.Test.YtdjpelcdijpihaaShort
import Derived.Test.YtdjpelcdijpihaaXHandRefA
namespace Go.Proofs.Ytdjpelcdijpihaa.PrintF
open Go.RowKit Go.Proofs.Ytdjpelcdijpihaa.Print Go.Proofs.YtdjpelcdijpihaaW.PrintWords Go.Proofs.YtdjpelcdijpihaaW.PrintLast Go.Lib
set_option linter.unusedVariables false
set_option linter.unusedSimpArgs false
def editNoR (e : S138) : Bool := decide (e.f0 < 1) || (decide (3 < e.f0) || noB e.f1)
def refEdits (l : List S138) : ByteArray × Bool := if l.any editNoR = true then (⟨#[]⟩, false) else (strB (numB l.length ++ l.flatMap editB), true)
set_option maxHeartbeats 8000000 in
set_option maxRecDepth 100000 in
theorem edits_calls (l2 : List S138) (A : Option Addr) (c : Nat) (w : World) (g2 : k138.C w A l2.length l2) (hlen : (numB l2.length ++ l2.flatMap editB).length ≤ 140737488355328) :
  Calls Try.prog 81 #[.slice A l2.length c] w fun e w' => e = .returned (.tuple #[.string (refEdits l2).1, .bool (refEdits l2).2]) ∧ Below w.heap.size w w' := by
 have G2 := Lib.hid g2
 have LL : Hid (l2.length ≤ 9223372036854775807) := Lib.hid g2.2.1
 obtain ⟨T, hT⟩ : ∃ T, numB l2.length ++ l2.flatMap editB = T := ⟨_, rfl⟩
 obtain ⟨R, hR⟩ : ∃ R, R = refEdits l2 := ⟨_, rfl⟩
 rw [← hR]
 have HR := Lib.hid hR
 have LT : T.length ≤ 140737488355328 := by rw [← hT]; exact hlen
 have HT0 := Lib.hid hT
 clear g2 hT hlen hR
 go_enter Try.func81, Try.ntmps81
 go_wp2_with (go_at_call 60; refine (num_calls (l2.length : Int) _).mono ?_; rintro e w1 ⟨rfl, hb1⟩)
 have HB1 := Lib.hid (below_step (Below.refl _ _) hb1)
 clear hb1
 go_loopw [2, 3, 4, 5] (fun a b s i wr => a = .string ⟨#[]⟩ ∧ b = .bool false ∧ ∃ n : Nat, n ≤ l2.length ∧ i = .int .i64 n ∧ ∃ acc, s = .string (strB acc) ∧ Hid (Below w.heap.size w wr) ∧ Hid (acc ++ (l2.drop n).flatMap editB = T) ∧ Hid ((l2.drop n).any editNoR = l2.any editNoR)) (fun _ _ _ i _ => l2.length - (intOf i).toNat)
 case atStart => exact ⟨rfl, rfl, 0, Nat.zero_le _, rfl, _, rfl, HB1, HT0, Lib.hid rfl⟩
 case round =>
  obtain ⟨rfl, rfl, n, hn, rfl, acc, rfl, HB_, HT_, HF_⟩ := hrel
  by_cases hlt : n < l2.length
  ·have hd : decide ((n : Int) < (l2.length : Int)) = true := decide_eq_true (by omega)
   have HLT := Lib.hid hlt
   have GB := Lib.hid (Kd.C_below G2.out HB_.out)
   obtain ⟨ad, hA, hc0, hc1⟩ := at_T138 GB.out (n : Int) (by omega) (by omega)
   subst hA
   rw [Int.toNat_natCast, rd138 hlt] at hc0 hc1
   have hdr : l2.drop n = l2[n] :: l2.drop (n + 1) := List.drop_eq_getElem_cons hlt
   rw [hdr, List.flatMap_cons] at HT_
   rw [hdr, List.any_cons] at HF_
   clear hdr
   generalize l2[n] = s at hc0 hc1 HT_ HF_
   clear hlt hn
   obtain ⟨ek, en⟩ := s
   dsimp only at hc0 hc1
   clear GB
   by_cases hk : ek < 1
   ·have t1 : decide (ek < 1) = true := decide_eq_true hk
    clear hk
    go_wp2_with (go_at_call 79; refine (fits_calls _ _).mono ?_; rintro e w2 ⟨rfl, rfl⟩)
    have hany : l2.any editNoR = true := by rw [← HF_.out]; exact Bool.or_eq_true_iff.mpr (.inl (by unfold editNoR; dsimp only; rw [t1]; rfl))
    have hE : R = (⟨#[]⟩, false) := by rw [HR.out, refEdits, if_pos hany]
    go_ret2
    exact ⟨retPair hE, HB_.out⟩
   ·have t1 : decide (ek < 1) = false := decide_eq_false hk
    clear hk
    by_cases hk3 : 3 < ek
    ·have t2 : decide (3 < ek) = true := decide_eq_true hk3
     clear hk3
     go_wp2_with (go_at_call 79; refine (fits_calls _ _).mono ?_; rintro e w2 ⟨rfl, rfl⟩)
     have hany : l2.any editNoR = true := by rw [← HF_.out]; exact Bool.or_eq_true_iff.mpr (.inl (by unfold editNoR; dsimp only; rw [t1, t2]; rfl))
     have hE : R = (⟨#[]⟩, false) := by rw [HR.out, refEdits, if_pos hany]
     go_ret2
     exact ⟨retPair hE, HB_.out⟩
    ·have t2 : decide (3 < ek) = false := decide_eq_false hk3
     clear hk3
     cases hq : noB en with
     | true =>
      go_wp2_with (go_at_call 79; refine (fits_calls _ _).mono ?_; rintro e w2 ⟨rfl, rfl⟩)
      have hany : l2.any editNoR = true := by rw [← HF_.out]; exact Bool.or_eq_true_iff.mpr (.inl (by unfold editNoR; dsimp only; rw [t1, t2, hq]; rfl))
      have hE : R = (⟨#[]⟩, false) := by rw [HR.out, refEdits, if_pos hany]
      go_ret2
      exact ⟨retPair hE, HB_.out⟩
     | false =>
      have hsn : editNoR ⟨ek, en⟩ = false := by unfold editNoR; dsimp only; rw [t1, t2, hq]; rfl
      rw [hsn, Bool.false_or] at HF_
      clear hsn
      go_wp2_with (go_at_call 79; refine (fits_calls _ _).mono ?_; rintro e w2 ⟨rfl, rfl⟩)
      have hTl := pre_len HT_.out
      have hsa := strB_size acc
      have hz0 := strB_size (numB ek)
      have hz1 := strB_size (numB en)
      have x2 : (9223372036854775807 < (strB (numB ek)).size + (strB (numB en)).size) = False := eq_false (by rw [hz0, hz1]; have := numB_len ek; have := numB_len en; omega)
      have xo : (9223372036854775807 < (strB acc).size + ((strB (numB ek)).size + (strB (numB en)).size)) = False := eq_false (by rw [hsa, hz0, hz1]; have := numB_len ek; have := numB_len en; omega)
      clear hTl hsa hz0 hz1
      have c0 : wr.drew.cell? (ad.add (n * 2)) = _ := hc0
      have c1 : wr.drew.cell? ⟨(ad.add (n * 2)).block, (ad.add (n * 2)).off + 1, none⟩ = _ := hc1
      have HB2 := Lib.hid (below_drew1 HB_.out)
      clear HB_ hc0 hc1
      have HB_ := HB2
      clear HB2
      refine wp_region_held_drew (S := fun w' => w'.cell? (ad.add (n * 2)) = some (.int .i64 ek) ∧ w'.cell? ⟨(ad.add (n * 2)).block, (ad.add (n * 2)).off + 1, none⟩ = some (.int .i64 en)) (by kernel_rfl) ⟨c0, c1⟩ (fun hHeld => ?_)
      refine tkz 0 rfl ?_ (.inl ⟨by rfl, ?_⟩) ?_
      rotate_left 1
      ·intro w hSw
       obtain ⟨s0, s1⟩ := hSw
       go_simp
       (try with_reducible rfl)
      (try simp only [Act.put, zq1, zq2, zq3, zq4, zq5, zq6])
      refine tkz 1 rfl ?_ (.inl ⟨by rfl, ?_⟩) ?_
      rotate_left 1
      ·intro w hSw
       obtain ⟨s0, s1⟩ := hSw
       go_simp
       (try with_reducible rfl)
      (try simp only [Act.put, zq1, zq2, zq3, zq4, zq5, zq6])
      refine tkz 2 rfl ?_ (.inl ⟨by rfl, ?_⟩) ?_
      rotate_left 1
      ·intro w hSw
       obtain ⟨s0, s1⟩ := hSw
       go_simp
       (try with_reducible rfl)
      (try simp only [Act.put, zq1, zq2, zq3, zq4, zq5, zq6])
      refine tkz 3 rfl ?_ (.inl ⟨by rfl, ?_⟩) ?_
      rotate_left 1
      ·intro w hSw
       obtain ⟨s0, s1⟩ := hSw
       go_simp
       (try with_reducible rfl)
      (try simp only [Act.put, zq1, zq2, zq3, zq4, zq5, zq6])
      refine tkz 4 rfl ?_ (.inl ⟨by rfl, ?_⟩) ?_
      rotate_left 1
      ·intro w hSw
       obtain ⟨s0, s1⟩ := hSw
       go_simp
       (try with_reducible rfl)
      (try simp only [Act.put, zq1, zq2, zq3, zq4, zq5, zq6])
      refine tkz 5 rfl ?_ (.inl ⟨by rfl, ?_⟩) ?_
      rotate_left 1
      ·intro w hSw
       obtain ⟨s0, s1⟩ := hSw
       go_simp
       (try with_reducible rfl)
      (try simp only [Act.put, zq1, zq2, zq3, zq4, zq5, zq6])
      refine tkz 7 rfl ?_ (.inl ⟨by rfl, ?_⟩) ?_
      rotate_left 1
      ·intro w hSw
       obtain ⟨s0, s1⟩ := hSw
       go_simp
       (try with_reducible rfl)
      (try simp only [Act.put, zq1, zq2, zq3, zq4, zq5, zq6])
      refine tkz 8 rfl ?_ (.inl ⟨by rfl, ?_⟩) ?_
      rotate_left 1
      ·intro w hSw
       obtain ⟨s0, s1⟩ := hSw
       go_simp
       (try with_reducible rfl)
      (try simp only [Act.put, zq1, zq2, zq3, zq4, zq5, zq6])
      refine tkz 9 rfl ?_ (.inl ⟨by rfl, ?_⟩) ?_
      rotate_left 1
      ·intro w hSw
       obtain ⟨s0, s1⟩ := hSw
       go_simp
       (try with_reducible rfl)
      (try simp only [Act.put, zq1, zq2, zq3, zq4, zq5, zq6])
      refine tkz 10 rfl ?_ (.inl ⟨by rfl, ?_⟩) ?_
      rotate_left 1
      ·intro w hSw
       obtain ⟨s0, s1⟩ := hSw
       go_simp
       (try with_reducible rfl)
      (try simp only [Act.put, zq1, zq2, zq3, zq4, zq5, zq6])
      refine tkz 11 rfl ?_ (.inl ⟨by rfl, ?_⟩) ?_
      rotate_left 1
      ·intro w hSw
       obtain ⟨s0, s1⟩ := hSw
       go_simp
       (try with_reducible rfl)
      (try simp only [Act.put, zq1, zq2, zq3, zq4, zq5, zq6])
      refine wpAnyH_ready (rs := [6]) (by kernel_rfl) (by simp) ?_
      refine AllReadyH.cons (o := _) rfl (fun K hK => ?_) AllReadyH.nil
      go_simp
      go_at_call 60
      refine (num_calls (ek) _).mono ?_
      rintro e w3 ⟨rfl, hb_⟩
      have c0_ := pw_cell_below hb_ c0
      have c1_ := pw_cell_below hb_ c1
      have HB2 := Lib.hid (below_step HB_.out hb_)
      clear c0 c1 hb_ HB_
      have HB_ := HB2
      clear HB2
      have c0 := c0_
      have c1 := c1_
      clear c0_ c1_
      refine hK.out _ _ ⟨c0, c1⟩ (fun hHeld => ?_)
      clear hK K
      (try simp only [Act.put, zq1, zq2, zq3, zq4, zq5, zq6])
      refine wpAnyH_ready (rs := [12]) (by kernel_rfl) (by simp) ?_
      refine AllReadyH.cons (o := _) rfl (fun K hK => ?_) AllReadyH.nil
      go_simp
      go_at_call 60
      refine (num_calls (en) _).mono ?_
      rintro e w4 ⟨rfl, hb_⟩
      have c0_ := pw_cell_below hb_ c0
      have c1_ := pw_cell_below hb_ c1
      have HB2 := Lib.hid (below_step HB_.out hb_)
      clear c0 c1 hb_ HB_
      have HB_ := HB2
      clear HB2
      have c0 := c0_
      have c1 := c1_
      clear c0_ c1_
      refine hK.out _ _ ⟨c0, c1⟩ (fun hHeld => ?_)
      clear hK K
      (try simp only [Act.put, zq1, zq2, zq3, zq4, zq5, zq6])
      refine tkz 13 rfl ?_ (.inl ⟨by rfl, ?_⟩) ?_
      rotate_left 1
      ·intro w hSw
       obtain ⟨s0, s1⟩ := hSw
       go_simp
       (try with_reducible rfl)
      (try simp only [Act.put, zq1, zq2, zq3, zq4, zq5, zq6])
      refine tkz 14 rfl ?_ (.inl ⟨by rfl, ?_⟩) ?_
      rotate_left 1
      ·intro w hSw
       obtain ⟨s0, s1⟩ := hSw
       go_simp
       (try with_reducible rfl)
      (try simp only [Act.put, zq1, zq2, zq3, zq4, zq5, zq6])
      refine tkz 15 rfl ?_ (.inl ⟨by rfl, ?_⟩) ?_
      rotate_left 1
      ·intro w hSw
       obtain ⟨s0, s1⟩ := hSw
       go_simp
       (try with_reducible rfl)
      (try simp only [Act.put, zq1, zq2, zq3, zq4, zq5, zq6])
      refine wpAnyH_done (by kernel_rfl) ?_ _
      go_wp2_with fail
      go_roundw
      case rel => exact ⟨rfl, rfl, n + 1, HLT.out, by rw [wrap_succ HLT.out LL.out], acc ++ editB ⟨ek, en⟩, by rw [editB]; simp only [strB_app, List.append_assoc], HB_, Lib.hid (by rw [List.append_assoc]; exact HT_.out), HF_⟩
      case measure => rw [wrap_succ HLT.out LL.out]; have := HLT.out; simp [intOf]; omega
  ·obtain rfl : n = l2.length := by omega
   have hd : decide ((l2.length : Int) < (l2.length : Int)) = false := decide_eq_false (by omega)
   rw [List.drop_of_length_le (Nat.le_refl _), List.flatMap_nil, List.append_nil] at HT_
   rw [List.drop_of_length_le (Nat.le_refl _), List.any_nil] at HF_
   have hE : R = (strB acc, true) := by rw [HR.out, refEdits, if_neg (by rw [← HF_.out]; exact Bool.false_ne_true), HT0.out, HT_.out]
   go_wp2_with fail
   go_ret2
   exact ⟨retPair hE, HB_.out⟩
end Go.Proofs.Ytdjpelcdijpihaa.PrintF
