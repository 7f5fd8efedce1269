/- A part of the proof of the claim: what it uses of the text HandNode. -/
import Derived.Test.YtdjpelcdijpihaaYHandWriter
import Derived.Deep.LoopGhost
namespace Go.Proofs.Ytdjpelcdijpihaa.PrintF
open Go.RowKit Go.Proofs.Ytdjpelcdijpihaa.Print Go.Proofs.YtdjpelcdijpihaaW.PrintWords Go.Proofs.YtdjpelcdijpihaaW.PrintLast Go.Lib
set_option linter.unusedVariables false
set_option linter.unusedSimpArgs false
structure NS (w0 w : World) (b g : Nat) (cs : Array Value) (t : TypeId) (bs : List UInt8) (wr : Bool) (W : World) : Prop where
 iw : IsW w0.heap.size b bs wr W
 kb : KeepB w0.heap.size b w W
 bx : W.heap[g]? = some (.cells cs t (0, 0))
 ne : g ≠ b
 t5 : t ≠ 5
 bl : Below w0.heap.size w0 W
section
variable {w0 w W W' : World} {b g : Nat} {cs : Array Value} {t : TypeId} {bs bs' : List UInt8} {wr wr' : Bool}
theorem NS.sz (h : NS w0 w b g cs t bs wr W) : w0.heap.size ≤ W.heap.size := h.bl.size
theorem NS.lt (h : NS w0 w b g cs t bs wr W) : g < W.heap.size := (Array.getElem?_eq_some_iff.1 h.bx).1
theorem keep_bl (hB : w0.heap.size ≤ b) (h : Below w0.heap.size w0 w) (k : KeepB w0.heap.size b w W) : Below w0.heap.size w0 W := h.trans (k.below hB h.size)
theorem NS.step (h : NS w0 w b g cs t bs wr W) (hi : IsW w0.heap.size b bs' wr' W') (k : KeepB w0.heap.size b W W') : NS w0 w b g cs t bs' wr' W' :=
 ⟨hi, h.kb.trans k, by rw [k.block _ h.lt h.ne (.inr fun cs' fr hh => by rw [h.bx] at hh; simp at hh; exact h.t5 hh.2.1)]; exact h.bx, h.ne, h.t5, keep_bl hi.ge h.bl k⟩
theorem NS.new (cs : Array Value) (t : TypeId) (h5 : t ≠ 5) (h : IsW w0.heap.size b bs wr w) (hb : Below w0.heap.size w0 w) : NS w0 w b w.heap.size cs t bs wr (w.alloc (.cells cs t)) :=
 ⟨h.below ((Below.refl _ _).alloc (Nat.le_refl _) _), (KeepB.refl _ _ _).alloc _, heap_alloc_new w _, (Nat.ne_of_lt h.lt).symm, h5, hb.alloc hb.size _⟩
theorem NS.cell (h : NS w0 w b g cs t bs wr W) (i : Nat) : W.cell? ⟨g, i, none⟩ = cs[i]? := blk_cell h.bx i
end
theorem wrap_succ {n l : Nat} (h : n < l) (hl : l ≤ 9223372036854775807) : wrap64 ((n : Int) + 1) = ((n + 1 : Nat) : Int) := by unfold wrap64; omega
theorem pre_len {a c d : List UInt8} (h : a ++ c = d) : a.length + c.length = d.length := by rw [← h, List.length_append]
theorem int_at {k : IntKind} {w : World} {A : Option Addr} {n : Nat} {xs : List Int} (h : (Kd.int k).C w A n xs) {j : Nat} (hj : j < xs.length) : ∃ ad, A = some ad ∧ w.cell? (ad.add j) = some (.int k xs[j]) := by
 obtain ⟨ad, e, hc⟩ := h.2.2 (by have := h.1; omega)
 obtain ⟨c, _, hk, hu⟩ := hc j _ (List.getElem?_eq_getElem hj)
 have hk' : c = [.int k xs[j]] := hk
 subst hk'
 exact ⟨ad, e, by have := hu 0 _ rfl; simpa [show (Kd.int k).sz = 1 from rfl] using this⟩
theorem str_at {w : World} {A : Option Addr} {n : Nat} {xs : List ByteArray} (h : Kd.string.C w A n xs) {j : Nat} (hj : j < xs.length) : ∃ ad, A = some ad ∧ w.cell? (ad.add j) = some (.string xs[j]) := by
 obtain ⟨ad, e, hc⟩ := h.2.2 (by have := h.1; omega)
 obtain ⟨c, _, hk, hu⟩ := hc j _ (List.getElem?_eq_getElem hj)
 have hk' : c = [.string xs[j]] := hk
 subst hk'
 exact ⟨ad, e, by have := hu 0 _ rfl; simpa [show Kd.string.sz = 1 from rfl] using this⟩
theorem txt_len (s : ByteArray) : s.size + 1 ≤ (txtB s).length ∧ (txtB s).length ≤ s.size + 10 := by
 have h1 := numB_len (s.size : Int)
 have h2 : 1 ≤ (numB (s.size : Int)).length := by
  unfold numB u8s vb vbN
  split <;> simp
 have h3 : s.data.toList.length = s.size := Array.length_toList
 unfold txtB
 rw [List.length_append]
 omega
def nodeB (x : S105) : List UInt8 := numB x.f0 ++ (numB x.f1.length ++ (x.f1.flatMap sgnB ++ (numB x.f2.length ++ (x.f2.flatMap txtB ++ (numB x.f3.length ++ x.f3.flatMap numB)))))
def nodeNo (x : S105) : Bool := noB x.f0 || (noB x.f1.length || (noB x.f2.length || (x.f2.any (fun s => noB s.size) || (noB x.f3.length || x.f3.any noB))))
set_option maxHeartbeats 8000000 in
set_option maxRecDepth 100000 in
theorem node_calls (x : S105) (A1 A2 A3 : Option Addr) (c1 c2 c3 : Nat) (w0 w : World) (b : Nat) (bs : List UInt8) (wb : Bool) (hb0 : Below w0.heap.size w0 w) (h : IsW w0.heap.size b bs wb w)
  (g1 : (Kd.int .i64).C w0 A1 x.f1.length x.f1) (g2 : Kd.string.C w0 A2 x.f2.length x.f2) (g3 : (Kd.int .i64).C w0 A3 x.f3.length x.f3) (hlen : bs.length + (nodeB x).length + 10 ≤ 140737488355328) :
  Calls Try.prog 76 #[.pointer (some ⟨b, 0, none⟩), .agg #[.int .i64 x.f0, .slice A1 x.f1.length c1, .slice A2 x.f2.length c2, .slice A3 x.f3.length c3]] w fun e w' => e = .returned (.tuple #[]) ∧ IsW w0.heap.size b (bs ++ nodeB x) (wb || nodeNo x) w' ∧ KeepB w0.heap.size b w w' := by
 obtain ⟨k, l1, l2, l3⟩ := x
 dsimp only at *
 have N_ := Lib.hid (NS.new #[.int .i64 k, .slice A1 l1.length c1, .slice A2 l2.length c2, .slice A3 l3.length c3] 105 (by decide) h hb0)
 have G1 := Lib.hid g1
 have G2 := Lib.hid g2
 have G3 := Lib.hid g3
 have LLl1 : Hid (l1.length ≤ 9223372036854775807) := Lib.hid g1.2.1
 have LLl2 : Hid (l2.length ≤ 9223372036854775807) := Lib.hid g2.2.1
 have LLl3 : Hid (l3.length ≤ 9223372036854775807) := Lib.hid g3.2.1
 obtain ⟨T, hT⟩ : ∃ T, bs ++ nodeB ⟨k, l1, l2, l3⟩ = T := ⟨_, rfl⟩
 obtain ⟨F, hF⟩ : ∃ F, (wb || nodeNo ⟨k, l1, l2, l3⟩) = F := ⟨_, rfl⟩
 rw [hT, hF]
 have LT : T.length + 10 ≤ 140737488355328 := by rw [← hT, List.length_append]; exact hlen
 have HT_ := Lib.hid hT
 have HF_ := Lib.hid hF
 clear g1 g2 g3 h hb0 hT hF hlen
 unfold nodeB at HT_
 unfold nodeNo at HF_
 dsimp only at HT_ HF_
 generalize hgX : w.heap.size = g at N_
 go_enter Try.func76, Try.ntmps76
 go_wp2_with fail
 refine (uint_calls (k) N_.out.iw (by have := pre_len HT_.out; omega) N_.out.sz).mono ?_
 rintro e w_ ⟨rfl, i_, k_⟩
 have n_ := Lib.hid (N_.out.step i_ k_)
 have h_ := HT_.out
 rw [← List.append_assoc] at h_
 have t_ := Lib.hid h_
 clear h_
 have h_ := HF_.out
 rw [← Bool.or_assoc] at h_
 have f_ := Lib.hid h_
 clear h_
 clear i_ k_ N_ HT_ HF_
 have N_ := n_
 have HT_ := t_
 have HF_ := f_
 clear n_ t_ f_
 generalize bs ++ numB (k) = a1 at N_ HT_
 generalize (wb || noB (k)) = q1 at N_ HF_
 have z1 : w_.cell? ⟨g, 1, none⟩ = some (.slice A1 l1.length c1) := N_.out.cell 1
 go_wp2_with fail
 refine (uint_calls ((l1.length : Int)) N_.out.iw (by have := pre_len HT_.out; omega) N_.out.sz).mono ?_
 rintro e w_ ⟨rfl, i_, k_⟩
 have n_ := Lib.hid (N_.out.step i_ k_)
 have h_ := HT_.out
 rw [← List.append_assoc] at h_
 have t_ := Lib.hid h_
 clear h_
 have h_ := HF_.out
 rw [← Bool.or_assoc] at h_
 have f_ := Lib.hid h_
 clear h_
 clear i_ k_ N_ HT_ HF_
 have N_ := n_
 have HT_ := t_
 have HF_ := f_
 clear n_ t_ f_
 generalize a1 ++ numB ((l1.length : Int)) = a2 at N_ HT_
 generalize (q1 || noB ((l1.length : Int))) = q2 at N_ HF_
 have z1 : w_.cell? ⟨g, 1, none⟩ = some (.slice A1 l1.length c1) := N_.out.cell 1
 obtain ⟨R1, hR1⟩ : ∃ R1, R1 = numB l2.length ++ (l2.flatMap txtB ++ (numB l3.length ++ l3.flatMap numB)) := ⟨_, rfl⟩
 rw [← hR1] at HT_
 obtain ⟨F1, hF1⟩ : ∃ F1, F1 = (noB l2.length || (l2.any (fun s => noB s.size) || (noB l3.length || l3.any noB))) := ⟨_, rfl⟩
 rw [← hF1] at HF_
 have HR1 := Lib.hid hR1
 have HF1 := Lib.hid hF1
 clear hR1 hF1
 go_wp2_with fail
 go_loopw [5, 22] (fun _ i wr => ∃ n : Nat, n ≤ l1.length ∧ i = .int .i64 n ∧ ∃ acc_ wq_, Hid (NS w0 w b g #[.int .i64 k, .slice A1 l1.length c1, .slice A2 l2.length c2, .slice A3 l3.length c3] 105 acc_ wq_ wr) ∧ Hid (acc_ ++ ((l1.drop n).flatMap sgnB ++ R1) = T) ∧ Hid ((wq_ || F1) = F)) (fun _ i _ => l1.length - (intOf i).toNat)
 case atStart => exact ⟨0, Nat.zero_le _, rfl, _, _, N_, Lib.hid (by rw [List.drop_zero]; exact HT_.out), HF_⟩
 case round =>
  obtain ⟨n, hn, rfl, a3, q3, N_, HT_, HF_⟩ := hrel
  have HN := Lib.hid hn
  by_cases hlt : n < l1.length
  ·have hd : decide ((n : Int) < (l1.length : Int)) = true := decide_eq_true (by omega)
   have HLT := Lib.hid hlt
   obtain ⟨ad, hA, hc0⟩ := int_at (Kd.C_below G1.out N_.out.bl) hlt
   subst hA
   have hdr : l1.drop n = l1[n] :: l1.drop (n + 1) := List.drop_eq_getElem_cons hlt
   rw [hdr, List.flatMap_cons, List.append_assoc] at HT_
   clear hdr
   generalize l1[n] = v at hc0 HT_
   go_wp2_with fail
   refine (int_calls v N_.out.iw (by have := pre_len HT_.out; omega) N_.out.sz).mono ?_
   rintro e w_ ⟨rfl, i_, k_⟩
   have n_ := Lib.hid (N_.out.step i_ k_)
   have h_ := HT_.out
   rw [← List.append_assoc] at h_
   have t_ := Lib.hid h_
   clear h_
   have f_ := HF_
   clear i_ k_ N_ HT_ HF_
   go_wp2_with fail
   go_roundw
   case rel => exact ⟨n + 1, HLT.out, by rw [wrap_succ HLT.out LLl1.out], _, _, n_, t_, f_⟩
   case measure => rw [wrap_succ HLT.out LLl1.out]; have := HLT.out; simp [intOf]; omega
  ·obtain rfl : n = l1.length := by omega
   have hd : decide ((l1.length : Int) < (l1.length : Int)) = false := decide_eq_false (by omega)
   rw [List.drop_of_length_le (Nat.le_refl _), List.flatMap_nil, List.nil_append] at HT_
   rw [HR1.out] at HT_
   rw [HF1.out] at HF_
   clear HR1 HF1
   have z2 : wr.cell? ⟨g, 2, none⟩ = some (.slice A2 l2.length c2) := N_.out.cell 2
   go_wp2_with fail
   refine (uint_calls ((l2.length : Int)) N_.out.iw (by have := pre_len HT_.out; omega) N_.out.sz).mono ?_
   rintro e w_ ⟨rfl, i_, k_⟩
   have n_ := Lib.hid (N_.out.step i_ k_)
   have h_ := HT_.out
   rw [← List.append_assoc] at h_
   have t_ := Lib.hid h_
   clear h_
   have h_ := HF_.out
   rw [← Bool.or_assoc] at h_
   have f_ := Lib.hid h_
   clear h_
   clear i_ k_ N_ HT_ HF_
   have N_ := n_
   have HT_ := t_
   have HF_ := f_
   clear n_ t_ f_
   generalize a3 ++ numB ((l2.length : Int)) = a4 at N_ HT_
   generalize (q3 || noB ((l2.length : Int))) = q4 at N_ HF_
   have z2 : w_.cell? ⟨g, 2, none⟩ = some (.slice A2 l2.length c2) := N_.out.cell 2
   obtain ⟨R1, hR1⟩ : ∃ R1, R1 = numB l3.length ++ l3.flatMap numB := ⟨_, rfl⟩
   rw [← hR1] at HT_
   obtain ⟨F1, hF1⟩ : ∃ F1, F1 = (noB l3.length || l3.any noB) := ⟨_, rfl⟩
   rw [← hF1] at HF_
   have HR1 := Lib.hid hR1
   have HF1 := Lib.hid hF1
   clear hR1 hF1
   go_wp2_with fail
   go_loopw [7, 38] (fun _ i wr => ∃ n : Nat, n ≤ l2.length ∧ i = .int .i64 n ∧ ∃ acc_ wq_, Hid (NS w0 w b g #[.int .i64 k, .slice A1 l1.length c1, .slice A2 l2.length c2, .slice A3 l3.length c3] 105 acc_ wq_ wr) ∧ Hid (acc_ ++ ((l2.drop n).flatMap txtB ++ R1) = T) ∧ Hid ((wq_ || ((l2.drop n).any (fun s => noB s.size) || F1)) = F)) (fun _ i _ => l2.length - (intOf i).toNat)
   case atStart => exact ⟨0, Nat.zero_le _, rfl, _, _, N_, Lib.hid (by rw [List.drop_zero]; exact HT_.out), Lib.hid (by rw [List.drop_zero]; exact HF_.out)⟩
   case round =>
    obtain ⟨n, hn, rfl, a5, q5, N_, HT_, HF_⟩ := hrel
    have HN := Lib.hid hn
    by_cases hlt : n < l2.length
    ·have hd : decide ((n : Int) < (l2.length : Int)) = true := decide_eq_true (by omega)
     have HLT := Lib.hid hlt
     obtain ⟨ad, hA, hc0⟩ := str_at (Kd.C_below G2.out N_.out.bl) hlt
     subst hA
     have hdr : l2.drop n = l2[n] :: l2.drop (n + 1) := List.drop_eq_getElem_cons hlt
     rw [hdr, List.flatMap_cons, List.append_assoc] at HT_
     rw [hdr, List.any_cons, Bool.or_assoc] at HF_
     clear hdr
     generalize l2[n] = v at hc0 HT_ HF_
     go_wp2_with fail
     refine (text_calls v N_.out.iw (by have := pre_len HT_.out; rw [List.length_append] at this; have := txt_len v; omega) N_.out.sz).mono ?_
     rintro e w_ ⟨rfl, i_, k_⟩
     have n_ := Lib.hid (N_.out.step i_ k_)
     have h_ := HT_.out
     rw [← List.append_assoc] at h_
     have t_ := Lib.hid h_
     clear h_
     have h_ := HF_.out
     rw [← Bool.or_assoc] at h_
     have f_ := Lib.hid h_
     clear h_
     clear i_ k_ N_ HT_ HF_
     go_wp2_with fail
     go_roundw
     case rel => exact ⟨n + 1, HLT.out, by rw [wrap_succ HLT.out LLl2.out], _, _, n_, t_, f_⟩
     case measure => rw [wrap_succ HLT.out LLl2.out]; have := HLT.out; simp [intOf]; omega
    ·obtain rfl : n = l2.length := by omega
     have hd : decide ((l2.length : Int) < (l2.length : Int)) = false := decide_eq_false (by omega)
     rw [List.drop_of_length_le (Nat.le_refl _), List.flatMap_nil, List.nil_append] at HT_
     rw [List.drop_of_length_le (Nat.le_refl _), List.any_nil, Bool.false_or] at HF_
     rw [HR1.out] at HT_
     rw [HF1.out] at HF_
     clear HR1 HF1
     have z3 : wr.cell? ⟨g, 3, none⟩ = some (.slice A3 l3.length c3) := N_.out.cell 3
     go_wp2_with fail
     refine (uint_calls ((l3.length : Int)) N_.out.iw (by have := pre_len HT_.out; omega) N_.out.sz).mono ?_
     rintro e w_ ⟨rfl, i_, k_⟩
     have n_ := Lib.hid (N_.out.step i_ k_)
     have h_ := HT_.out
     rw [← List.append_assoc] at h_
     have t_ := Lib.hid h_
     clear h_
     have h_ := HF_.out
     rw [← Bool.or_assoc] at h_
     have f_ := Lib.hid h_
     clear h_
     clear i_ k_ N_ HT_ HF_
     have N_ := n_
     have HT_ := t_
     have HF_ := f_
     clear n_ t_ f_
     generalize a5 ++ numB ((l3.length : Int)) = a6 at N_ HT_
     generalize (q5 || noB ((l3.length : Int))) = q6 at N_ HF_
     have z3 : w_.cell? ⟨g, 3, none⟩ = some (.slice A3 l3.length c3) := N_.out.cell 3
     have HT_ : Hid (a6 ++ (l3.flatMap numB ++ []) = T) := Lib.hid (by rw [List.append_nil]; exact HT_.out)
     have HF_ : Hid ((q6 || (l3.any noB || false)) = F) := Lib.hid (by rw [Bool.or_false]; exact HF_.out)
     go_wp2_with fail
     go_loopw [9, 54] (fun _ i wr => ∃ n : Nat, n ≤ l3.length ∧ i = .int .i64 n ∧ ∃ acc_ wq_, Hid (NS w0 w b g #[.int .i64 k, .slice A1 l1.length c1, .slice A2 l2.length c2, .slice A3 l3.length c3] 105 acc_ wq_ wr) ∧ Hid (acc_ ++ ((l3.drop n).flatMap numB ++ []) = T) ∧ Hid ((wq_ || ((l3.drop n).any noB || false)) = F)) (fun _ i _ => l3.length - (intOf i).toNat)
     case atStart => exact ⟨0, Nat.zero_le _, rfl, _, _, N_, Lib.hid (by rw [List.drop_zero]; exact HT_.out), Lib.hid (by rw [List.drop_zero]; exact HF_.out)⟩
     case round =>
      obtain ⟨n, hn, rfl, a7, q7, N_, HT_, HF_⟩ := hrel
      have HN := Lib.hid hn
      by_cases hlt : n < l3.length
      ·have hd : decide ((n : Int) < (l3.length : Int)) = true := decide_eq_true (by omega)
       have HLT := Lib.hid hlt
       obtain ⟨ad, hA, hc0⟩ := int_at (Kd.C_below G3.out N_.out.bl) hlt
       subst hA
       have hdr : l3.drop n = l3[n] :: l3.drop (n + 1) := List.drop_eq_getElem_cons hlt
       rw [hdr, List.flatMap_cons, List.append_assoc] at HT_
       rw [hdr, List.any_cons, Bool.or_assoc] at HF_
       clear hdr
       generalize l3[n] = v at hc0 HT_ HF_
       go_wp2_with fail
       refine (uint_calls v N_.out.iw (by have := pre_len HT_.out; omega) N_.out.sz).mono ?_
       rintro e w_ ⟨rfl, i_, k_⟩
       have n_ := Lib.hid (N_.out.step i_ k_)
       have h_ := HT_.out
       rw [← List.append_assoc] at h_
       have t_ := Lib.hid h_
       clear h_
       have h_ := HF_.out
       rw [← Bool.or_assoc] at h_
       have f_ := Lib.hid h_
       clear h_
       clear i_ k_ N_ HT_ HF_
       go_wp2_with fail
       go_roundw
       case rel => exact ⟨n + 1, HLT.out, by rw [wrap_succ HLT.out LLl3.out], _, _, n_, t_, f_⟩
       case measure => rw [wrap_succ HLT.out LLl3.out]; have := HLT.out; simp [intOf]; omega
      ·obtain rfl : n = l3.length := by omega
       have hd : decide ((l3.length : Int) < (l3.length : Int)) = false := decide_eq_false (by omega)
       rw [List.drop_of_length_le (Nat.le_refl _), List.flatMap_nil, List.nil_append] at HT_
       rw [List.drop_of_length_le (Nat.le_refl _), List.any_nil, Bool.false_or] at HF_
       go_wp2_with fail
       go_end0
       rw [List.append_nil] at HT_
       rw [Bool.or_false] at HF_
       refine ⟨rfl, ?_, N_.out.kb⟩
       rw [← HT_.out, ← HF_.out]
       exact N_.out.iw
end Go.Proofs.Ytdjpelcdijpihaa.PrintF
