/- A part of the proof of the claim: what it uses of the text HandEdit. -/
import Derived.Test.YtdjpelcdijpihaaYHandNode
namespace Go.Proofs.Ytdjpelcdijpihaa.PrintF
open Go.RowKit Go.Proofs.Ytdjpelcdijpihaa.Print Go.Proofs.YtdjpelcdijpihaaW.PrintWords Go.Proofs.YtdjpelcdijpihaaW.PrintLast Go.Lib
set_option linter.unusedVariables false
set_option linter.unusedSimpArgs false
section
variable {w0 w W W' : World} {b g g2 : Nat} {cs cs2 : Array Value} {t t2 : TypeId} {bs bs' : List UInt8} {wr wr' : Bool}
theorem NS.setw (h : NS w0 w b g cs t bs wr W) (x : Bool) : NS w0 w b g cs t bs x (W.setCell ⟨b, 2, none⟩ (.bool x)) :=
 h.step (h.iw.set x) ((KeepB.refl _ _ _).setCell 2 _)
structure NS2 (w0 w : World) (b g : Nat) (cs : Array Value) (t : TypeId) (g2 : Nat) (cs2 : Array Value) (t2 : TypeId) (bs : List UInt8) (wr : Bool) (W : World) : Prop where
 ns : NS w0 w b g cs t bs wr W
 b2 : W.heap[g2]? = some (.cells cs2 t2 (0, 0))
 n2 : g2 ≠ b
 s2 : t2 ≠ 5
theorem NS2.cell (h : NS2 w0 w b g cs t g2 cs2 t2 bs wr W) (i : Nat) : W.cell? ⟨g2, i, none⟩ = cs2[i]? := blk_cell h.b2 i
theorem NS2.step (h : NS2 w0 w b g cs t g2 cs2 t2 bs wr W) (hi : IsW w0.heap.size b bs' wr' W') (k : KeepB w0.heap.size b W W') : NS2 w0 w b g cs t g2 cs2 t2 bs' wr' W' :=
 ⟨h.ns.step hi k, by rw [k.block _ (Array.getElem?_eq_some_iff.1 h.b2).1 h.n2 (.inr fun cs' fr hh => by rw [h.b2] at hh; simp at hh; exact h.s2 hh.2.1)]; exact h.b2, h.n2, h.s2⟩
theorem NS2.setw (h : NS2 w0 w b g cs t g2 cs2 t2 bs wr W) (x : Bool) : NS2 w0 w b g cs t g2 cs2 t2 bs x (W.setCell ⟨b, 2, none⟩ (.bool x)) :=
 h.step (h.ns.iw.set x) ((KeepB.refl _ _ _).setCell 2 _)
theorem NS2.new (cs2 : Array Value) (t2 : TypeId) (h5 : t2 ≠ 5) (h : NS w0 w b g cs t bs wr W) : NS2 w0 w b g cs t W.heap.size cs2 t2 bs wr (W.alloc (.cells cs2 t2)) :=
 ⟨h.step (h.iw.below ((Below.refl _ _).alloc (Nat.le_refl _) _)) ((KeepB.refl _ _ _).alloc _), heap_alloc_new W _, (Nat.ne_of_lt h.iw.lt).symm, h5⟩
end
theorem rd127 {l : List S127} {n : Nat} (h : n < l.length) : rd_T127 l (n : Int) = l[n] := by
 unfold rd_T127
 rw [List.getD_eq_getElem?_getD, Int.toNat_natCast, List.getElem?_eq_getElem h]
 rfl
theorem rd138 {l : List S138} {n : Nat} (h : n < l.length) : rd_T138 l (n : Int) = l[n] := by
 unfold rd_T138
 rw [List.getD_eq_getElem?_getD, Int.toNat_natCast, List.getElem?_eq_getElem h]
 rfl
def setB (s : S127) : List UInt8 := if s.f0 = true then numB 1 ++ (numB s.f1 ++ txtB s.f3) else numB 0 ++ (numB s.f1 ++ sgnB s.f2)
def setNo (s : S127) : Bool := if s.f0 = true then (s.f2 != 0) || (noB s.f1 || noB s.f3.size) else (!s.f3.toList.isEmpty) || noB s.f1
def editB (e : S138) : List UInt8 := numB e.f0 ++ numB e.f1
def editNo (e : S138) : Bool := decide (e.f0 < 1) || (decide (3 < e.f0) || (noB e.f0 || noB e.f1))
theorem noB1 : noB 1 = false := by decide
theorem noB0 : noB 0 = false := by decide
theorem bT (n : Int) (hn : noB n = false) {q x a c R F : Bool} (h : (q || ((x || (a || c)) || R)) = F) : ((q || x) || (noB n || (a || (c || R)))) = F := by
 rw [hn, ← h]
 cases q <;> cases x <;> cases a <;> cases c <;> rfl
theorem bN (n : Int) (hn : noB n = false) {q x a R F : Bool} (h : (q || ((x || a) || R)) = F) : ((q || x) || (noB n || (a || R))) = F := by
 rw [hn, ← h]
 cases q <;> cases x <;> cases a <;> rfl
theorem bE {q x y a c R F : Bool} (h : (q || ((x || (y || (a || c))) || R)) = F) : (((q || x) || y) || (a || (c || R))) = F := by
 rw [← h]
 cases q <;> cases x <;> cases y <;> cases a <;> cases c <;> rfl
def editsB (l2 : List S127) (l3 : List S138) : List UInt8 := numB l2.length ++ (l2.flatMap setB ++ (numB l3.length ++ l3.flatMap editB))
def editsNo (l2 : List S127) (l3 : List S138) : Bool := noB l2.length || (l2.any setNo || (noB l3.length || l3.any editNo))
set_option maxHeartbeats 8000000 in
set_option maxRecDepth 100000 in
theorem edit_calls (kd bp nk : Int) (l2 : List S127) (l3 : List S138) (A2 A3 A5 A6 A7 : Option Addr) (c2 c3 m5 c5 m6 c6 m7 c7 : Nat) (w0 w : World) (b : Nat) (bs : List UInt8) (wb : Bool) (hb0 : Below w0.heap.size w0 w) (h : IsW w0.heap.size b bs wb w)
  (g2 : k127.C w0 A2 l2.length l2) (g3 : k138.C w0 A3 l3.length l3) (hlen : bs.length + (editsB l2 l3).length + 10 ≤ 140737488355328) :
  Calls Try.prog 77 #[.pointer (some ⟨b, 0, none⟩), .agg #[.int .i64 kd, .int .i64 bp, .slice A2 l2.length c2, .slice A3 l3.length c3, .int .i64 nk, .slice A5 m5 c5, .slice A6 m6 c6, .slice A7 m7 c7]] w fun e w' => e = .returned (.tuple #[]) ∧ IsW w0.heap.size b (bs ++ editsB l2 l3) (wb || editsNo l2 l3) w' ∧ KeepB w0.heap.size b w w' := by
 have N_ := Lib.hid (NS.new #[.int .i64 kd, .int .i64 bp, .slice A2 l2.length c2, .slice A3 l3.length c3, .int .i64 nk, .slice A5 m5 c5, .slice A6 m6 c6, .slice A7 m7 c7] 107 (by decide) h hb0)
 have G2 := Lib.hid g2
 have G3 := Lib.hid g3
 have LLl2 : Hid (l2.length ≤ 9223372036854775807) := Lib.hid g2.2.1
 have LLl3 : Hid (l3.length ≤ 9223372036854775807) := Lib.hid g3.2.1
 obtain ⟨T, hT⟩ : ∃ T, bs ++ editsB l2 l3 = T := ⟨_, rfl⟩
 obtain ⟨F, hF⟩ : ∃ F, (wb || editsNo l2 l3) = F := ⟨_, rfl⟩
 rw [hT, hF]
 have LT : T.length + 10 ≤ 140737488355328 := by rw [← hT, List.length_append]; exact hlen
 have HT_ := Lib.hid hT
 have HF_ := Lib.hid hF
 clear g2 g3 h hb0 hT hF hlen
 unfold editsB at HT_
 unfold editsNo at HF_
 generalize hgX : w.heap.size = g at N_
 have z2 : (w.alloc (.cells #[.int .i64 kd, .int .i64 bp, .slice A2 l2.length c2, .slice A3 l3.length c3, .int .i64 nk, .slice A5 m5 c5, .slice A6 m6 c6, .slice A7 m7 c7] 107)).cell? ⟨g, 2, none⟩ = some (.slice A2 l2.length c2) := N_.out.cell 2
 go_enter Try.func77, Try.ntmps77
 go_wp2_with fail
 refine (uint_calls ((l2.length : Int)) N_.out.iw (by have := pre_len HT_.out; omega) N_.out.sz).mono ?_
 rintro e w_ ⟨rfl, i_, k_⟩
 have n_ := Lib.hid (N_.out.step i_ k_)
 have h_ := HT_.out
 rw [← List.append_assoc] at h_
 have t_ := Lib.hid h_
 clear h_
 have h_ := HF_.out
 rw [← Bool.or_assoc] at h_
 have f_ := Lib.hid h_
 clear h_
 clear i_ k_ N_ HT_ HF_
 have N_ := n_
 have HT_ := t_
 have HF_ := f_
 clear n_ t_ f_
 generalize bs ++ numB ((l2.length : Int)) = a1 at N_ HT_
 generalize (wb || noB ((l2.length : Int))) = q1 at N_ HF_
 have z2 : w_.cell? ⟨g, 2, none⟩ = some (.slice A2 l2.length c2) := N_.out.cell 2
 obtain ⟨R1, hR1⟩ : ∃ R1, R1 = numB l3.length ++ l3.flatMap editB := ⟨_, rfl⟩
 rw [← hR1] at HT_
 obtain ⟨F1, hF1⟩ : ∃ F1, F1 = (noB l3.length || l3.any editNo) := ⟨_, rfl⟩
 rw [← hF1] at HF_
 have HR1 := Lib.hid hR1
 have HF1 := Lib.hid hF1
 clear hR1 hF1
 go_wp2_with fail
 go_loopw [5, 16] (fun _ i wr => ∃ n : Nat, n ≤ l2.length ∧ i = .int .i64 n ∧ ∃ acc_ wq_, Hid (NS w0 w b g #[.int .i64 kd, .int .i64 bp, .slice A2 l2.length c2, .slice A3 l3.length c3, .int .i64 nk, .slice A5 m5 c5, .slice A6 m6 c6, .slice A7 m7 c7] 107 acc_ wq_ wr) ∧ Hid (acc_ ++ ((l2.drop n).flatMap setB ++ R1) = T) ∧ Hid ((wq_ || ((l2.drop n).any setNo || F1)) = F)) (fun _ i _ => l2.length - (intOf i).toNat)
 case atStart => exact ⟨0, Nat.zero_le _, rfl, _, _, N_, Lib.hid (by rw [List.drop_zero]; exact HT_.out), Lib.hid (by rw [List.drop_zero]; exact HF_.out)⟩
 case round =>
  obtain ⟨n, hn, rfl, a2, q2, N_, HT_, HF_⟩ := hrel
  by_cases hlt : n < l2.length
  ·have hd : decide ((n : Int) < (l2.length : Int)) = true := decide_eq_true (by omega)
   have HLT := Lib.hid hlt
   have GB := Lib.hid (Kd.C_below G2.out N_.out.bl)
   obtain ⟨ad, hA, hc0, hc1, hc2, hc3⟩ := at_T127 GB.out (n : Int) (by omega) (by omega)
   subst hA
   rw [Int.toNat_natCast, rd127 hlt] at hc0 hc1 hc2 hc3
   have hdr : l2.drop n = l2[n] :: l2.drop (n + 1) := List.drop_eq_getElem_cons hlt
   rw [hdr, List.flatMap_cons, List.append_assoc] at HT_
   rw [hdr, List.any_cons, Bool.or_assoc] at HF_
   clear hdr
   generalize l2[n] = s at hc0 hc1 hc2 hc3 HT_ HF_
   clear hlt hn
   obtain ⟨st, sf, sn, ss⟩ := s
   dsimp only at hc0 hc1 hc2 hc3
   have M_ := Lib.hid (NS2.new #[.bool st, .int .i64 sf, .int .i64 sn, .string ss] 127 (by decide) N_.out)
   clear N_
   have N_ := M_
   clear M_
   rw [setB] at HT_
   rw [setNo] at HF_
   dsimp only at HT_ HF_
   generalize hgE : wr.heap.size = gE at N_
   have HTb := HT_
   have HFb := HF_
   clear HT_ HF_
   cases q2
   ·cases st
    ·skip
     have yc : ∀ j, (wr.alloc (.cells #[.bool false, .int .i64 sf, .int .i64 sn, .string ss] 127)).cell? ⟨gE, j, none⟩ = (#[Value.bool false, .int .i64 sf, .int .i64 sn, .string ss])[j]? := fun j => N_.out.cell j
     have y0 := yc 0
     have y2 := yc 2
     have y3 := yc 3
     clear yc
     obtain ⟨c_, f_⟩ := N_.out.ns.iw.c2
     have h_ := HTb.out
     rw [if_neg Bool.false_ne_true, List.append_assoc, List.append_assoc] at h_
     have HT_ := Lib.hid h_
     clear h_
     have HFc := HFb.out
     rw [if_neg Bool.false_ne_true] at HFc
     have HF_ := Lib.hid (bN 0 noB0 HFc)
     clear HTb HFb HFc
     have M_ := Lib.hid (N_.out.setw (false || !ss.toList.isEmpty))
     clear N_
     have N_ := M_
     clear M_
     go_wp2_with fail
     refine (uint_calls 0 N_.out.ns.iw (by have := pre_len HT_.out; omega) N_.out.ns.sz).mono ?_
     rintro e w_ ⟨rfl, i_, k_⟩
     have n_ := Lib.hid (N_.out.step i_ k_)
     have h_ := HT_.out
     rw [← List.append_assoc] at h_
     have t_ := Lib.hid h_
     clear h_
     have h_ := HF_.out
     rw [← Bool.or_assoc] at h_
     have f_ := Lib.hid h_
     clear h_
     clear i_ k_ N_ HT_ HF_
     have N_ := n_
     have HT_ := t_
     have HF_ := f_
     clear n_ t_ f_
     have y1 : w_.cell? ⟨gE, 1, none⟩ = some (.int .i64 sf) := N_.out.cell 1
     go_wp2_with fail
     refine (uint_calls sf N_.out.ns.iw (by have := pre_len HT_.out; omega) N_.out.ns.sz).mono ?_
     rintro e w_ ⟨rfl, i_, k_⟩
     have n_ := Lib.hid (N_.out.step i_ k_)
     have h_ := HT_.out
     rw [← List.append_assoc] at h_
     have t_ := Lib.hid h_
     clear h_
     have h_ := HF_.out
     rw [← Bool.or_assoc] at h_
     have f_ := Lib.hid h_
     clear h_
     clear i_ k_ N_ HT_ HF_
     have N_ := n_
     have HT_ := t_
     have HF_ := f_
     clear n_ t_ f_
     have y2 : w_.cell? ⟨gE, 2, none⟩ = some (.int .i64 sn) := N_.out.cell 2
     go_wp2_with fail
     refine (int_calls sn N_.out.ns.iw (by have := pre_len HT_.out; omega) N_.out.ns.sz).mono ?_
     rintro e w_ ⟨rfl, i_, k_⟩
     have n_ := Lib.hid (N_.out.step i_ k_)
     have h_ := HT_.out
     rw [← List.append_assoc] at h_
     have t_ := Lib.hid h_
     clear h_
     have f_ := HF_
     clear i_ k_ N_ HT_ HF_
     have N_ := n_
     have HT_ := t_
     have HF_ := f_
     clear n_ t_ f_
     go_wp2_with fail
     go_roundw
     case rel => exact ⟨n + 1, HLT.out, by rw [wrap_succ HLT.out LLl2.out], _, _, Lib.hid N_.out.ns, HT_, HF_⟩
     case measure => rw [wrap_succ HLT.out LLl2.out]; have := HLT.out; simp [intOf]; omega
    ·skip
     have yc : ∀ j, (wr.alloc (.cells #[.bool true, .int .i64 sf, .int .i64 sn, .string ss] 127)).cell? ⟨gE, j, none⟩ = (#[Value.bool true, .int .i64 sf, .int .i64 sn, .string ss])[j]? := fun j => N_.out.cell j
     have y0 := yc 0
     have y2 := yc 2
     have y3 := yc 3
     clear yc
     obtain ⟨c_, f_⟩ := N_.out.ns.iw.c2
     have h_ := HTb.out
     rw [if_pos rfl, List.append_assoc, List.append_assoc] at h_
     have HT_ := Lib.hid h_
     clear h_
     have HFc := HFb.out
     rw [if_pos rfl] at HFc
     have HF_ := Lib.hid (bT 1 noB1 HFc)
     clear HTb HFb HFc
     have M_ := Lib.hid (N_.out.setw (false || (sn != 0)))
     clear N_
     have N_ := M_
     clear M_
     go_wp2_with fail
     refine (uint_calls 1 N_.out.ns.iw (by have := pre_len HT_.out; omega) N_.out.ns.sz).mono ?_
     rintro e w_ ⟨rfl, i_, k_⟩
     have n_ := Lib.hid (N_.out.step i_ k_)
     have h_ := HT_.out
     rw [← List.append_assoc] at h_
     have t_ := Lib.hid h_
     clear h_
     have h_ := HF_.out
     rw [← Bool.or_assoc] at h_
     have f_ := Lib.hid h_
     clear h_
     clear i_ k_ N_ HT_ HF_
     have N_ := n_
     have HT_ := t_
     have HF_ := f_
     clear n_ t_ f_
     have y1 : w_.cell? ⟨gE, 1, none⟩ = some (.int .i64 sf) := N_.out.cell 1
     go_wp2_with fail
     refine (uint_calls sf N_.out.ns.iw (by have := pre_len HT_.out; omega) N_.out.ns.sz).mono ?_
     rintro e w_ ⟨rfl, i_, k_⟩
     have n_ := Lib.hid (N_.out.step i_ k_)
     have h_ := HT_.out
     rw [← List.append_assoc] at h_
     have t_ := Lib.hid h_
     clear h_
     have h_ := HF_.out
     rw [← Bool.or_assoc] at h_
     have f_ := Lib.hid h_
     clear h_
     clear i_ k_ N_ HT_ HF_
     have N_ := n_
     have HT_ := t_
     have HF_ := f_
     clear n_ t_ f_
     have y3 : w_.cell? ⟨gE, 3, none⟩ = some (.string ss) := N_.out.cell 3
     go_wp2_with fail
     refine (text_calls ss N_.out.ns.iw (by have := pre_len HT_.out; simp only [List.length_append] at this ⊢; have := txt_len ss; omega) N_.out.ns.sz).mono ?_
     rintro e w_ ⟨rfl, i_, k_⟩
     have n_ := Lib.hid (N_.out.step i_ k_)
     have h_ := HT_.out
     rw [← List.append_assoc] at h_
     have t_ := Lib.hid h_
     clear h_
     have h_ := HF_.out
     rw [← Bool.or_assoc] at h_
     have f_ := Lib.hid h_
     clear h_
     clear i_ k_ N_ HT_ HF_
     have N_ := n_
     have HT_ := t_
     have HF_ := f_
     clear n_ t_ f_
     go_wp2_with fail
     go_roundw
     case rel => exact ⟨n + 1, HLT.out, by rw [wrap_succ HLT.out LLl2.out], _, _, Lib.hid N_.out.ns, HT_, HF_⟩
     case measure => rw [wrap_succ HLT.out LLl2.out]; have := HLT.out; simp [intOf]; omega
   ·cases st
    ·skip
     have yc : ∀ j, (wr.alloc (.cells #[.bool false, .int .i64 sf, .int .i64 sn, .string ss] 127)).cell? ⟨gE, j, none⟩ = (#[Value.bool false, .int .i64 sf, .int .i64 sn, .string ss])[j]? := fun j => N_.out.cell j
     have y0 := yc 0
     have y2 := yc 2
     have y3 := yc 3
     clear yc
     obtain ⟨c_, f_⟩ := N_.out.ns.iw.c2
     have h_ := HTb.out
     rw [if_neg Bool.false_ne_true, List.append_assoc, List.append_assoc] at h_
     have HT_ := Lib.hid h_
     clear h_
     have HFc := HFb.out
     rw [if_neg Bool.false_ne_true] at HFc
     have HF_ := Lib.hid (bN 0 noB0 HFc)
     clear HTb HFb HFc
     have M_ := Lib.hid (N_.out.setw (true || !ss.toList.isEmpty))
     clear N_
     have N_ := M_
     clear M_
     go_wp2_with fail
     refine (uint_calls 0 N_.out.ns.iw (by have := pre_len HT_.out; omega) N_.out.ns.sz).mono ?_
     rintro e w_ ⟨rfl, i_, k_⟩
     have n_ := Lib.hid (N_.out.step i_ k_)
     have h_ := HT_.out
     rw [← List.append_assoc] at h_
     have t_ := Lib.hid h_
     clear h_
     have h_ := HF_.out
     rw [← Bool.or_assoc] at h_
     have f_ := Lib.hid h_
     clear h_
     clear i_ k_ N_ HT_ HF_
     have N_ := n_
     have HT_ := t_
     have HF_ := f_
     clear n_ t_ f_
     have y1 : w_.cell? ⟨gE, 1, none⟩ = some (.int .i64 sf) := N_.out.cell 1
     go_wp2_with fail
     refine (uint_calls sf N_.out.ns.iw (by have := pre_len HT_.out; omega) N_.out.ns.sz).mono ?_
     rintro e w_ ⟨rfl, i_, k_⟩
     have n_ := Lib.hid (N_.out.step i_ k_)
     have h_ := HT_.out
     rw [← List.append_assoc] at h_
     have t_ := Lib.hid h_
     clear h_
     have h_ := HF_.out
     rw [← Bool.or_assoc] at h_
     have f_ := Lib.hid h_
     clear h_
     clear i_ k_ N_ HT_ HF_
     have N_ := n_
     have HT_ := t_
     have HF_ := f_
     clear n_ t_ f_
     have y2 : w_.cell? ⟨gE, 2, none⟩ = some (.int .i64 sn) := N_.out.cell 2
     go_wp2_with fail
     refine (int_calls sn N_.out.ns.iw (by have := pre_len HT_.out; omega) N_.out.ns.sz).mono ?_
     rintro e w_ ⟨rfl, i_, k_⟩
     have n_ := Lib.hid (N_.out.step i_ k_)
     have h_ := HT_.out
     rw [← List.append_assoc] at h_
     have t_ := Lib.hid h_
     clear h_
     have f_ := HF_
     clear i_ k_ N_ HT_ HF_
     have N_ := n_
     have HT_ := t_
     have HF_ := f_
     clear n_ t_ f_
     go_wp2_with fail
     go_roundw
     case rel => exact ⟨n + 1, HLT.out, by rw [wrap_succ HLT.out LLl2.out], _, _, Lib.hid N_.out.ns, HT_, HF_⟩
     case measure => rw [wrap_succ HLT.out LLl2.out]; have := HLT.out; simp [intOf]; omega
    ·skip
     have yc : ∀ j, (wr.alloc (.cells #[.bool true, .int .i64 sf, .int .i64 sn, .string ss] 127)).cell? ⟨gE, j, none⟩ = (#[Value.bool true, .int .i64 sf, .int .i64 sn, .string ss])[j]? := fun j => N_.out.cell j
     have y0 := yc 0
     have y2 := yc 2
     have y3 := yc 3
     clear yc
     obtain ⟨c_, f_⟩ := N_.out.ns.iw.c2
     have h_ := HTb.out
     rw [if_pos rfl, List.append_assoc, List.append_assoc] at h_
     have HT_ := Lib.hid h_
     clear h_
     have HFc := HFb.out
     rw [if_pos rfl] at HFc
     have HF_ := Lib.hid (bT 1 noB1 HFc)
     clear HTb HFb HFc
     have M_ := Lib.hid (N_.out.setw (true || (sn != 0)))
     clear N_
     have N_ := M_
     clear M_
     go_wp2_with fail
     refine (uint_calls 1 N_.out.ns.iw (by have := pre_len HT_.out; omega) N_.out.ns.sz).mono ?_
     rintro e w_ ⟨rfl, i_, k_⟩
     have n_ := Lib.hid (N_.out.step i_ k_)
     have h_ := HT_.out
     rw [← List.append_assoc] at h_
     have t_ := Lib.hid h_
     clear h_
     have h_ := HF_.out
     rw [← Bool.or_assoc] at h_
     have f_ := Lib.hid h_
     clear h_
     clear i_ k_ N_ HT_ HF_
     have N_ := n_
     have HT_ := t_
     have HF_ := f_
     clear n_ t_ f_
     have y1 : w_.cell? ⟨gE, 1, none⟩ = some (.int .i64 sf) := N_.out.cell 1
     go_wp2_with fail
     refine (uint_calls sf N_.out.ns.iw (by have := pre_len HT_.out; omega) N_.out.ns.sz).mono ?_
     rintro e w_ ⟨rfl, i_, k_⟩
     have n_ := Lib.hid (N_.out.step i_ k_)
     have h_ := HT_.out
     rw [← List.append_assoc] at h_
     have t_ := Lib.hid h_
     clear h_
     have h_ := HF_.out
     rw [← Bool.or_assoc] at h_
     have f_ := Lib.hid h_
     clear h_
     clear i_ k_ N_ HT_ HF_
     have N_ := n_
     have HT_ := t_
     have HF_ := f_
     clear n_ t_ f_
     have y3 : w_.cell? ⟨gE, 3, none⟩ = some (.string ss) := N_.out.cell 3
     go_wp2_with fail
     refine (text_calls ss N_.out.ns.iw (by have := pre_len HT_.out; simp only [List.length_append] at this ⊢; have := txt_len ss; omega) N_.out.ns.sz).mono ?_
     rintro e w_ ⟨rfl, i_, k_⟩
     have n_ := Lib.hid (N_.out.step i_ k_)
     have h_ := HT_.out
     rw [← List.append_assoc] at h_
     have t_ := Lib.hid h_
     clear h_
     have h_ := HF_.out
     rw [← Bool.or_assoc] at h_
     have f_ := Lib.hid h_
     clear h_
     clear i_ k_ N_ HT_ HF_
     have N_ := n_
     have HT_ := t_
     have HF_ := f_
     clear n_ t_ f_
     go_wp2_with fail
     go_roundw
     case rel => exact ⟨n + 1, HLT.out, by rw [wrap_succ HLT.out LLl2.out], _, _, Lib.hid N_.out.ns, HT_, HF_⟩
     case measure => rw [wrap_succ HLT.out LLl2.out]; have := HLT.out; simp [intOf]; omega
  ·obtain rfl : n = l2.length := by omega
   have hd : decide ((l2.length : Int) < (l2.length : Int)) = false := decide_eq_false (by omega)
   rw [List.drop_of_length_le (Nat.le_refl _), List.flatMap_nil, List.nil_append, HR1.out] at HT_
   rw [List.drop_of_length_le (Nat.le_refl _), List.any_nil, Bool.false_or, HF1.out] at HF_
   clear HR1 HF1
   have z3 : wr.cell? ⟨g, 3, none⟩ = some (.slice A3 l3.length c3) := N_.out.cell 3
   go_wp2_with fail
   refine (uint_calls ((l3.length : Int)) N_.out.iw (by have := pre_len HT_.out; omega) N_.out.sz).mono ?_
   rintro e w_ ⟨rfl, i_, k_⟩
   have n_ := Lib.hid (N_.out.step i_ k_)
   have h_ := HT_.out
   rw [← List.append_assoc] at h_
   have t_ := Lib.hid h_
   clear h_
   have h_ := HF_.out
   rw [← Bool.or_assoc] at h_
   have f_ := Lib.hid h_
   clear h_
   clear i_ k_ N_ HT_ HF_
   have N_ := n_
   have HT_ := t_
   have HF_ := f_
   clear n_ t_ f_
   generalize a2 ++ numB ((l3.length : Int)) = a3 at N_ HT_
   generalize (q2 || noB ((l3.length : Int))) = q3 at N_ HF_
   have z3 : w_.cell? ⟨g, 3, none⟩ = some (.slice A3 l3.length c3) := N_.out.cell 3
   have HTx : Hid (a3 ++ (l3.flatMap editB ++ []) = T) := Lib.hid (by rw [List.append_nil]; exact HT_.out)
   have HFx : Hid ((q3 || (l3.any editNo || false)) = F) := Lib.hid (by rw [Bool.or_false]; exact HF_.out)
   clear HT_ HF_
   have HT_ := HTx
   have HF_ := HFx
   clear HTx HFx
   go_wp2_with fail
   go_loopw [7, 75] (fun _ i wr => ∃ n : Nat, n ≤ l3.length ∧ i = .int .i64 n ∧ ∃ acc_ wq_, Hid (NS w0 w b g #[.int .i64 kd, .int .i64 bp, .slice A2 l2.length c2, .slice A3 l3.length c3, .int .i64 nk, .slice A5 m5 c5, .slice A6 m6 c6, .slice A7 m7 c7] 107 acc_ wq_ wr) ∧ Hid (acc_ ++ ((l3.drop n).flatMap editB ++ []) = T) ∧ Hid ((wq_ || ((l3.drop n).any editNo || false)) = F)) (fun _ i _ => l3.length - (intOf i).toNat)
   case atStart => exact ⟨0, Nat.zero_le _, rfl, _, _, N_, Lib.hid (by rw [List.drop_zero]; exact HT_.out), Lib.hid (by rw [List.drop_zero]; exact HF_.out)⟩
   case round =>
    obtain ⟨n, hn, rfl, a4, q4, N_, HT_, HF_⟩ := hrel
    by_cases hlt : n < l3.length
    ·have hd : decide ((n : Int) < (l3.length : Int)) = true := decide_eq_true (by omega)
     have HLT := Lib.hid hlt
     have GB := Lib.hid (Kd.C_below G3.out N_.out.bl)
     obtain ⟨ad, hA, hc0, hc1⟩ := at_T138 GB.out (n : Int) (by omega) (by omega)
     subst hA
     rw [Int.toNat_natCast, rd138 hlt] at hc0 hc1
     have hdr : l3.drop n = l3[n] :: l3.drop (n + 1) := List.drop_eq_getElem_cons hlt
     rw [hdr, List.flatMap_cons, List.append_assoc] at HT_
     rw [hdr, List.any_cons, Bool.or_assoc] at HF_
     clear hdr
     generalize l3[n] = s at hc0 hc1 HT_ HF_
     clear hlt hn
     obtain ⟨ek, en⟩ := s
     dsimp only at hc0 hc1
     have M_ := Lib.hid (NS2.new #[.int .i64 ek, .int .i64 en] 138 (by decide) N_.out)
     clear N_
     have N_ := M_
     clear M_
     rw [editB, List.append_assoc] at HT_
     rw [editNo] at HF_
     dsimp only at HT_ HF_
     generalize hgE : wr.heap.size = gE at N_
     have yc : ∀ j, (wr.alloc (.cells #[.int .i64 ek, .int .i64 en] 138)).cell? ⟨gE, j, none⟩ = (#[Value.int .i64 ek, .int .i64 en])[j]? := fun j => N_.out.cell j
     have y0 := yc 0
     clear yc
     have HFb := HF_
     clear HF_
     cases q4
     ·by_cases hk : ek < 1
      ·have t1 : decide (ek < 1) = true := decide_eq_true hk
       clear hk
       obtain ⟨c_, f_⟩ := N_.out.ns.iw.c2
       have HFc := HFb.out
       rw [t1] at HFc
       have HF_ := Lib.hid (bE HFc)
       clear HFb HFc
       have M_ := Lib.hid (N_.out.setw (true))
       clear N_
       have N_ := M_
       clear M_
       go_wp2_with fail
       refine (uint_calls ek N_.out.ns.iw (by have := pre_len HT_.out; simp only [List.length_append] at this ⊢; omega) N_.out.ns.sz).mono ?_
       rintro e w_ ⟨rfl, i_, k_⟩
       have n_ := Lib.hid (N_.out.step i_ k_)
       have h_ := HT_.out
       rw [← List.append_assoc] at h_
       have t_ := Lib.hid h_
       clear h_
       have h_ := HF_.out
       rw [← Bool.or_assoc] at h_
       have f_ := Lib.hid h_
       clear h_
       clear i_ k_ N_ HT_ HF_
       have N_ := n_
       have HT_ := t_
       have HF_ := f_
       clear n_ t_ f_
       have y1 : w_.cell? ⟨gE, 1, none⟩ = some (.int .i64 en) := N_.out.cell 1
       go_wp2_with fail
       refine (uint_calls en N_.out.ns.iw (by have := pre_len HT_.out; simp only [List.length_append] at this ⊢; omega) N_.out.ns.sz).mono ?_
       rintro e w_ ⟨rfl, i_, k_⟩
       have n_ := Lib.hid (N_.out.step i_ k_)
       have h_ := HT_.out
       rw [← List.append_assoc] at h_
       have t_ := Lib.hid h_
       clear h_
       have h_ := HF_.out
       rw [← Bool.or_assoc] at h_
       have f_ := Lib.hid h_
       clear h_
       clear i_ k_ N_ HT_ HF_
       have N_ := n_
       have HT_ := t_
       have HF_ := f_
       clear n_ t_ f_
       go_wp2_with fail
       go_roundw
       case rel => exact ⟨n + 1, HLT.out, by rw [wrap_succ HLT.out LLl3.out], _, _, Lib.hid N_.out.ns, HT_, HF_⟩
       case measure => rw [wrap_succ HLT.out LLl3.out]; have := HLT.out; simp [intOf]; omega
      ·have t1 : decide (ek < 1) = false := decide_eq_false hk
       clear hk
       obtain ⟨c_, f_⟩ := N_.out.ns.iw.c2
       have HFc := HFb.out
       rw [t1] at HFc
       have HF_ := Lib.hid (bE HFc)
       clear HFb HFc
       have M_ := Lib.hid (N_.out.setw (decide (3 < ek)))
       clear N_
       have N_ := M_
       clear M_
       go_wp2_with fail
       refine (uint_calls ek N_.out.ns.iw (by have := pre_len HT_.out; simp only [List.length_append] at this ⊢; omega) N_.out.ns.sz).mono ?_
       rintro e w_ ⟨rfl, i_, k_⟩
       have n_ := Lib.hid (N_.out.step i_ k_)
       have h_ := HT_.out
       rw [← List.append_assoc] at h_
       have t_ := Lib.hid h_
       clear h_
       have h_ := HF_.out
       rw [← Bool.or_assoc] at h_
       have f_ := Lib.hid h_
       clear h_
       clear i_ k_ N_ HT_ HF_
       have N_ := n_
       have HT_ := t_
       have HF_ := f_
       clear n_ t_ f_
       have y1 : w_.cell? ⟨gE, 1, none⟩ = some (.int .i64 en) := N_.out.cell 1
       go_wp2_with fail
       refine (uint_calls en N_.out.ns.iw (by have := pre_len HT_.out; simp only [List.length_append] at this ⊢; omega) N_.out.ns.sz).mono ?_
       rintro e w_ ⟨rfl, i_, k_⟩
       have n_ := Lib.hid (N_.out.step i_ k_)
       have h_ := HT_.out
       rw [← List.append_assoc] at h_
       have t_ := Lib.hid h_
       clear h_
       have h_ := HF_.out
       rw [← Bool.or_assoc] at h_
       have f_ := Lib.hid h_
       clear h_
       clear i_ k_ N_ HT_ HF_
       have N_ := n_
       have HT_ := t_
       have HF_ := f_
       clear n_ t_ f_
       go_wp2_with fail
       go_roundw
       case rel => exact ⟨n + 1, HLT.out, by rw [wrap_succ HLT.out LLl3.out], _, _, Lib.hid N_.out.ns, HT_, HF_⟩
       case measure => rw [wrap_succ HLT.out LLl3.out]; have := HLT.out; simp [intOf]; omega
     ·skip
      obtain ⟨c_, f_⟩ := N_.out.ns.iw.c2
      have HFc := HFb.out
      have HF_ := Lib.hid (bE HFc)
      clear HFb HFc
      have M_ := Lib.hid (N_.out.setw (true))
      clear N_
      have N_ := M_
      clear M_
      go_wp2_with fail
      refine (uint_calls ek N_.out.ns.iw (by have := pre_len HT_.out; simp only [List.length_append] at this ⊢; omega) N_.out.ns.sz).mono ?_
      rintro e w_ ⟨rfl, i_, k_⟩
      have n_ := Lib.hid (N_.out.step i_ k_)
      have h_ := HT_.out
      rw [← List.append_assoc] at h_
      have t_ := Lib.hid h_
      clear h_
      have h_ := HF_.out
      rw [← Bool.or_assoc] at h_
      have f_ := Lib.hid h_
      clear h_
      clear i_ k_ N_ HT_ HF_
      have N_ := n_
      have HT_ := t_
      have HF_ := f_
      clear n_ t_ f_
      have y1 : w_.cell? ⟨gE, 1, none⟩ = some (.int .i64 en) := N_.out.cell 1
      go_wp2_with fail
      refine (uint_calls en N_.out.ns.iw (by have := pre_len HT_.out; simp only [List.length_append] at this ⊢; omega) N_.out.ns.sz).mono ?_
      rintro e w_ ⟨rfl, i_, k_⟩
      have n_ := Lib.hid (N_.out.step i_ k_)
      have h_ := HT_.out
      rw [← List.append_assoc] at h_
      have t_ := Lib.hid h_
      clear h_
      have h_ := HF_.out
      rw [← Bool.or_assoc] at h_
      have f_ := Lib.hid h_
      clear h_
      clear i_ k_ N_ HT_ HF_
      have N_ := n_
      have HT_ := t_
      have HF_ := f_
      clear n_ t_ f_
      go_wp2_with fail
      go_roundw
      case rel => exact ⟨n + 1, HLT.out, by rw [wrap_succ HLT.out LLl3.out], _, _, Lib.hid N_.out.ns, HT_, HF_⟩
      case measure => rw [wrap_succ HLT.out LLl3.out]; have := HLT.out; simp [intOf]; omega
    ·obtain rfl : n = l3.length := by omega
     have hd : decide ((l3.length : Int) < (l3.length : Int)) = false := decide_eq_false (by omega)
     rw [List.drop_of_length_le (Nat.le_refl _), List.flatMap_nil, List.nil_append, List.append_nil] at HT_
     rw [List.drop_of_length_le (Nat.le_refl _), List.any_nil, Bool.false_or, Bool.or_false] at HF_
     go_wp2_with fail
     go_end0
     refine ⟨rfl, ?_, N_.out.kb⟩
     rw [← HT_.out, ← HF_.out]
     exact N_.out.iw
end Go.Proofs.Ytdjpelcdijpihaa.PrintF
