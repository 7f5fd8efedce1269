/- A part of the proof of the claim: what it uses of the text HandRefText. -/
import Derived.Test.YtdjpelcdijpihaaVPrintG2
import Derived.Test.YtdjpelcdijpihaaShort
import Derived.Deep.RegionHeld3
namespace Go.Proofs.Ytdjpelcdijpihaa.PrintF
open Go.RowKit Go.Proofs.Ytdjpelcdijpihaa.Print Go.Proofs.YtdjpelcdijpihaaW.PrintWords Go.Proofs.YtdjpelcdijpihaaW.PrintLast Go.Lib
set_option linter.unusedVariables false
set_option linter.unusedSimpArgs false
theorem keep_new {w w1 w2 : World} {g gb : Nat} (h : KeepBut w w1 g none) (k : KeepBut w1 w2 gb none) (hb : w.heap.size ≤ gb) : KeepBut w w2 g none :=
 ⟨Nat.le_trans h.1 k.1, fun i hi hg hr => (k.2 i (Nat.lt_of_lt_of_le hi h.1) (by omega) (by simp)).trans (h.2 i hi hg hr)⟩
def dioramaref02_Cursor_Text.f (k : Nat) (s0_0 : ByteArray) (s0_1 : Int) (s0_2 : Int) (a1 : Int) : Option (ByteArray × ByteArray × Int × Int) :=
 if a1 = 16777216 then (if s0_2 = 0 then (dioramaref02_Cursor_Uint.f k s0_0 s0_1 0 16777216).bind fun u => (dioramaref02_Cursor_Bytes.f u.2.1 u.2.2.1 u.2.2.2 u.1).bind fun s => if s.2.2.2 = 0 then some (s.1, s0_0, s.2.2.1, 0) else some (⟨#[]⟩, s0_0, s0_1, s.2.2.2) else some (⟨#[]⟩, s0_0, s0_1, s0_2)) else none
set_option maxHeartbeats 4000000 in
set_option maxRecDepth 100000 in
theorem dioramaref02_Cursor_Text.calls (k : Nat) (g : Nat) (s0_0 : ByteArray) (s0_1 : Int) (s0_2 : Int) (a1 : Int) (r1 : ByteArray) (r2 : ByteArray) (r3 : Int) (r4 : Int) (w0 w : World) (hI : IsS116 w0 w g s0_0 s0_1 s0_2) (hB : Below w0.heap.size w0 w) (h : dioramaref02_Cursor_Text.f k s0_0 s0_1 s0_2 a1 = some (r1, r2, r3, r4)) :
  Calls Try.prog 107 #[.pointer (some ⟨g, 0, none⟩), .int .i64 a1] w fun e w' => e = .returned (.string r1) ∧ IsS116 w0 w' g r2 r3 r4 ∧ Below w0.heap.size w0 w' ∧ KeepBut w w' g none := by
 unfold dioramaref02_Cursor_Text.f at h
 by_cases ha : a1 = 16777216
 ·subst ha
  rw [if_pos rfl] at h
  obtain ⟨HG, hg⟩ := id hI
  have c0 := cellS116_0 HG
  have c1 := cellS116_1 HG
  have c2 := cellS116_2 HG
  have f1 := blk_frozen HG 1
  have f2 := blk_frozen HG 2
  have HI := Lib.hid hI
  have HB := Lib.hid hB
  clear HG hI hB
  by_cases he : s0_2 = 0
  ·subst he
   rw [if_pos rfl] at h
   obtain ⟨⟨u, ub, ua, ue⟩, h1, h⟩ := Option.bind_eq_some_iff.mp h
   obtain ⟨⟨s, sb, sa, se⟩, h2, h⟩ := Option.bind_eq_some_iff.mp h
   dsimp only at h2 h
   have A1 := Lib.hid h1
   have A2 := Lib.hid h2
   have HH := Lib.hid h
   clear h1 h2 h
   go_enter Try.func107, Try.ntmps107
   go_wp2_with fail
   refine wp_region_held_drew (S := fun w' => w'.cell? ⟨g, 0, none⟩ = some (.string s0_0) ∧ w'.cell? ⟨g, 1, none⟩ = some (.int .i64 s0_1)) (by kernel_rfl) ⟨c0, c1⟩ (fun hHeld => ?_)
   have HI2 := Lib.hid (IsS116.drew HI.out)
   have HB2 := Lib.hid (below_drew1 HB.out)
   have HK : Hid (KeepBut w w.drew g none) := Lib.hid (keep_drew (KeepBut.refl w g none))
   have HS : Hid (w.heap.size ≤ w.drew.heap.size) := Lib.hid (Nat.le_refl _)
   have HW : Hid (g < w.heap.size) := Lib.hid (IsS116.lt HI.out)
   clear HI HB c0 c1 c2 f1 f2
   generalize w.drew = W1 at HI2 HB2 HK HS hHeld ⊢
   refine tkz 0 rfl ?_ (.inl ⟨by rfl, ?_⟩) ?_
   rotate_left 1
   ·intro w hSw
    obtain ⟨s0, s1⟩ := hSw
    go_simp
    (try with_reducible rfl)
   (try simp only [Act.put, zq1, zq2, zq3, zq4, zq5, zq6])
   refine tkz 1 rfl ?_ (.inl ⟨by rfl, ?_⟩) ?_
   rotate_left 1
   ·intro w hSw
    obtain ⟨s0, s1⟩ := hSw
    go_simp
    (try with_reducible rfl)
   (try simp only [Act.put, zq1, zq2, zq3, zq4, zq5, zq6])
   refine tkz 2 rfl ?_ (.inl ⟨by rfl, ?_⟩) ?_
   rotate_left 1
   ·intro w hSw
    obtain ⟨s0, s1⟩ := hSw
    go_simp
    (try with_reducible rfl)
   (try simp only [Act.put, zq1, zq2, zq3, zq4, zq5, zq6])
   refine tkz 3 rfl ?_ (.inl ⟨by rfl, ?_⟩) ?_
   rotate_left 1
   ·intro w hSw
    obtain ⟨s0, s1⟩ := hSw
    go_simp
    (try with_reducible rfl)
   (try simp only [Act.put, zq1, zq2, zq3, zq4, zq5, zq6])
   refine tkz 4 rfl ?_ (.inl ⟨by rfl, ?_⟩) ?_
   rotate_left 1
   ·intro w hSw
    obtain ⟨s0, s1⟩ := hSw
    go_simp
    (try with_reducible rfl)
   (try simp only [Act.put, zq1, zq2, zq3, zq4, zq5, zq6])
   refine tkz 5 rfl ?_ (.inl ⟨by rfl, ?_⟩) ?_
   rotate_left 1
   ·intro w hSw
    obtain ⟨s0, s1⟩ := hSw
    go_simp
    (try with_reducible rfl)
   (try simp only [Act.put, zq1, zq2, zq3, zq4, zq5, zq6])
   refine tkz 6 rfl ?_ (.inl ⟨by rfl, ?_⟩) ?_
   rotate_left 1
   ·intro w hSw
    obtain ⟨s0, s1⟩ := hSw
    go_simp
    (try with_reducible rfl)
   (try simp only [Act.put, zq1, zq2, zq3, zq4, zq5, zq6])
   refine tkz 7 rfl ?_ (.inl ⟨by rfl, ?_⟩) ?_
   rotate_left 1
   ·intro w hSw
    obtain ⟨s0, s1⟩ := hSw
    go_simp
    (try with_reducible rfl)
   (try simp only [Act.put, zq1, zq2, zq3, zq4, zq5, zq6])
   refine tkz 8 rfl ?_ (.inl ⟨by rfl, ?_⟩) ?_
   rotate_left 1
   ·intro w hSw
    obtain ⟨s0, s1⟩ := hSw
    go_simp
    (try with_reducible rfl)
   (try simp only [Act.put, zq1, zq2, zq3, zq4, zq5, zq6])
   refine wpAnyH_ready (rs := [9]) (by kernel_rfl) (by simp) ?_
   refine AllReadyH.cons (o := _) rfl (fun K hK => ?_) AllReadyH.nil
   go_simp
   have NEW := Lib.hid (IsS116.new w0 W1 s0_0 s0_1 0 HB2.out)
   have HI3 := Lib.hid (IsS116.alloc HI2.out (.cells #[.string s0_0, .int .i64 s0_1, .int .i64 0] 116))
   have HB3 := Lib.hid (HB2.out.alloc HB2.out.size (.cells #[.string s0_0, .int .i64 s0_1, .int .i64 0] 116))
   have HK3 := Lib.hid (keep_alloc HK.out (.cells #[.string s0_0, .int .i64 s0_1, .int .i64 0] 116))
   obtain ⟨gb, hgb⟩ : ∃ gb, gb = W1.heap.size := ⟨_, rfl⟩
   rw [← hgb] at NEW
   have HGB : Hid (w.heap.size ≤ gb) := Lib.hid (by rw [hgb]; exact HS.out)
   rw [← hgb]
   clear hgb
   generalize W1.alloc (.cells #[.string s0_0, .int .i64 s0_1, .int .i64 0] 116) = W2 at NEW HI3 HB3 HK3 ⊢
   have c0 := cellS116_0 HI3.out.1
   have c1 := cellS116_1 HI3.out.1
   refine hK.out _ _ ⟨c0, c1⟩ (fun hHeld2 => ?_)
   clear hK K HI2 HB2 HK HS hHeld
   (try simp only [Act.put, zq1, zq2, zq3, zq4, zq5, zq6])
   refine tkz 10 rfl ?_ (.inl ⟨by rfl, ?_⟩) ?_
   rotate_left 1
   ·intro w hSw
    obtain ⟨s0, s1⟩ := hSw
    go_simp
    (try with_reducible rfl)
   (try simp only [Act.put, zq1, zq2, zq3, zq4, zq5, zq6])
   refine wpAnyH_done (by kernel_rfl) ?_ _
   clear c0 c1
   go_wp2_with (first | (go_at_call 67; refine (dioramaref02_Cursor_Uint.calls k gb s0_0 s0_1 0 16777216 u ub ua ue w0 _ NEW.out HB3.out A1.out).mono ?_; rintro e w4 ⟨rfl, i4, b4, k4⟩; have NEW4 := Lib.hid i4; have HB4 := Lib.hid b4; have HI4 : Hid (IsS116 w0 w4 g s0_0 s0_1 0) := Lib.hid ⟨KeepBut.blk k4 HI3.out.1 (Nat.ne_of_lt (Nat.lt_of_lt_of_le HW.out HGB.out)) (by simp), HI3.out.2⟩; have HK4 := Lib.hid (keep_new HK3.out k4 HGB.out); clear i4 b4 k4 NEW HB3 HI3 HK3) | (go_at_call 113; refine (dioramaref02_Cursor_Bytes.calls gb ub ua ue u s sb sa se w0 _ NEW4.out HB4.out A2.out).mono ?_; rintro e w5 ⟨rfl, i5, b5, k5⟩; have NEW5 := Lib.hid i5; have HB5 := Lib.hid b5; have HI5 : Hid (IsS116 w0 w5 g s0_0 s0_1 0) := Lib.hid ⟨KeepBut.blk k5 HI4.out.1 (Nat.ne_of_lt (Nat.lt_of_lt_of_le HW.out HGB.out)) (by simp), HI4.out.2⟩; have HK5 := Lib.hid (keep_new HK4.out k5 HGB.out); clear i5 b5 k5 NEW4 HB4 HI4 HK4; have c0 := cellS116_0 NEW5.out.1; have c1 := cellS116_1 NEW5.out.1; have c2 := cellS116_2 NEW5.out.1; have d1 := cellS116_1 HI5.out.1; have d2 := cellS116_2 HI5.out.1; have f1 := blk_frozen HI5.out.1 1; have f2 := blk_frozen HI5.out.1 2))
   ·have h0 : ¬ se = 0 := by simpa using ‹(se != 0) = true›
    go_ret
    have h3 := HH.out
    rw [if_neg h0] at h3
    cases h3
    exact ⟨rfl, IsS116.set_2 HI5.out _, below_set HB5.out (IsS116.ge HI5.out), KeepBut.set_ HK5.out _ _⟩
   ·have h0 : se = 0 := by simpa using ‹(se != 0) = false›
    go_ret
    have h3 := HH.out
    rw [if_pos h0] at h3
    cases h3
    exact ⟨rfl, IsS116.set_1 HI5.out _, below_set HB5.out (IsS116.ge HI5.out), KeepBut.set_ HK5.out _ _⟩
  ·rw [if_neg he] at h
   have t1 : (s0_2 != 0) = true := bne_iff_ne.mpr he
   have HH := Lib.hid h
   clear h he
   go_enter Try.func107, Try.ntmps107
   go_wp2_with fail
   go_ret
   have h := HH.out
   cases h
   exact ⟨rfl, HI.out, HB.out, KeepBut.refl _ _ _⟩
 ·rw [if_neg ha] at h
  cases h
end Go.Proofs.Ytdjpelcdijpihaa.PrintF
