/- A part of the proof of the claim: what it uses of the text HandRefA. -/
import Derived.Test.YtdjpelcdijpihaaShort
import Derived.Test.YtdjpelcdijpihaaXHandOp
import Derived.Test.YtdjpelcdijpihaaXFrameRefPut
import Derived.Laws.Bits64
namespace Go.Proofs.Ytdjpelcdijpihaa.PrintF
open Go.RowKit Go.Proofs.Ytdjpelcdijpihaa.Print Go.Proofs.YtdjpelcdijpihaaW.PrintWords Go.Proofs.YtdjpelcdijpihaaW.PrintLast Go.Lib
set_option linter.unusedVariables false
set_option linter.unusedSimpArgs false
def strB (l : List UInt8) : ByteArray := ⟨l.toArray⟩
theorem strB_size (l : List UInt8) : (strB l).size = l.length := by simp [strB, ByteArray.size]
theorem strB_app (a b : List UInt8) : strB a ++ strB b = strB (a ++ b) := by
 apply ByteArray.ext
 apply Array.ext'
 simp [strB]
theorem retPair {R : ByteArray × Bool} {a : ByteArray} {b : Bool} (h : R = (a, b)) : Ending.returned (.tuple #[.string a, .bool b]) = .returned (.tuple #[.string R.1, .bool R.2]) := by rw [h]
def refSets (l : List S127) : ByteArray × Bool := if l.any setNo = true then (⟨#[]⟩, false) else (strB (numB l.length ++ l.flatMap setB), true)
theorem num_calls (n : Int) (w : World) : Calls Try.prog 60 #[.int .i64 n] w fun e w' => e = .returned (.string (strB (numB n))) ∧ Below w.heap.size w w' := by
 have hw : IntKind.u64.wrap n = ((n % 18446744073709551616).toNat : Int) := by rw [IntKind.wrap_u64]; omega
 have hp := Pure.ref01Put 100 (n % 18446744073709551616).toNat (by omega) (by omega)
 have he : strOfNums (ints (vb (n % 18446744073709551616).toNat)) = strB (numB n) := by
  apply ByteArray.ext
  apply Array.ext'
  rw [strOf_ints]
  rfl
 rw [he, ← hw] at hp
 have HP := Lib.hid hp
 clear he hp hw
 go_enter Try.func60, Try.ntmps60
 go_wp2_with (go_at_call 48; refine (dioramaref01_Put.calls 100 _ _ _ HP.out).mono ?_; rintro e w1 ⟨rfl, hb⟩)
 go_ret
 exact ⟨rfl, hb⟩
theorem zig_nat (n : Int) (h : -9223372036854775808 ≤ n ∧ n ≤ 9223372036854775807) : zigN n = if 0 ≤ n then 2 * n else 2 * (-(n + 1)) + 1 := by
 unfold zigN
 by_cases h0 : 0 ≤ n
 ·obtain ⟨m, rfl⟩ : ∃ m : Nat, n = m := ⟨n.toNat, by omega⟩
  rw [if_pos h0, u64_id (n := (m : Int)) (by omega), u64_id (n := (m : Int) * 2) (by omega), show (m : Int) / 9223372036854775808 = 0 by omega, show IntKind.u64.wrap 0 = ((0 : Nat) : Int) by rw [IntKind.wrap_u64]; rfl,
   show (m : Int) * 2 = ((m * 2 : Nat) : Int) by omega, bits_xor_u64_nat _ _ (by omega) (by omega), Nat.xor_zero]
  omega
 ·obtain ⟨m, hm⟩ : ∃ m : Nat, n = -(m : Int) - 1 := ⟨(-(n + 1)).toNat, by omega⟩
  have e1 : IntKind.u64.wrap (IntKind.u64.wrap n * 2) = ((18446744073709551615 - (2 * m + 1) : Nat) : Int) := by rw [IntKind.wrap_u64, IntKind.wrap_u64]; omega
  have e2 : IntKind.u64.wrap (n / 9223372036854775808) = ((18446744073709551615 : Nat) : Int) := by rw [IntKind.wrap_u64]; omega
  have e3 : (18446744073709551615 - (2 * m + 1)) ^^^ 18446744073709551615 = 2 * m + 1 := by
   have h1 := BitVec.toNat_not (x := BitVec.ofNat 64 (18446744073709551615 - (2 * m + 1)))
   have h2 : (BitVec.ofNat 64 (18446744073709551615 - (2 * m + 1)) ^^^ BitVec.allOnes 64) = ~~~ (BitVec.ofNat 64 (18446744073709551615 - (2 * m + 1))) := BitVec.xor_allOnes
   have h3 := congrArg BitVec.toNat h2
   rw [h1, BitVec.toNat_xor, BitVec.toNat_ofNat, BitVec.toNat_allOnes, Nat.mod_eq_of_lt (by omega)] at h3
   rw [show (18446744073709551615 : Nat) = 2 ^ 64 - 1 from rfl]
   rw [show (18446744073709551615 : Nat) = 2 ^ 64 - 1 from rfl] at h3
   rw [h3]
   omega
  rw [if_neg h0, e1, e2, bits_xor_u64_nat _ _ (by omega) (by omega), e3, hm]
  omega
set_option maxHeartbeats 4000000 in
theorem zig_calls (n : Int) (hn : -9223372036854775808 ≤ n ∧ n ≤ 9223372036854775807) (w : World) : Calls Try.prog 112 #[.int .i64 n] w fun e w' => e = .returned (.int .u64 (zigN n)) ∧ w' = w := by
 rw [zig_nat n hn]
 by_cases h0 : 0 ≤ n
 ·have t1 : decide (0 ≤ n) = true := decide_eq_true h0
  have e1 : IntKind.u64.wrap n = n := u64_id (by omega)
  have e2 : IntKind.u64.wrap (2 * n) = 2 * n := u64_id (by omega)
  rw [if_pos h0]
  clear h0
  go_enter Try.func112, Try.ntmps112
  go_wp2_with fail
  go_ret
  exact ⟨rfl, rfl⟩
 ·have t1 : decide (0 ≤ n) = false := decide_eq_false h0
  have e0 : IntKind.i64.wrap (n + 1) = n + 1 := IntWalk.i64_in _ (by omega)
  have e9 : IntKind.i64.wrap (-(n + 1)) = -(n + 1) := IntWalk.i64_in _ (by omega)
  have e1 : IntKind.u64.wrap (-(n + 1)) = -(n + 1) := u64_id (by omega)
  have e2 : IntKind.u64.wrap (2 * (-(n + 1))) = 2 * (-(n + 1)) := u64_id (by omega)
  have e3 : IntKind.u64.wrap (2 * (-(n + 1)) + 1) = 2 * (-(n + 1)) + 1 := u64_id (by omega)
  rw [if_neg h0]
  go_enter Try.func112, Try.ntmps112
  go_wp2_with fail
  go_ret
  exact ⟨rfl, rfl⟩
theorem signed_calls (n : Int) (hn : -9223372036854775808 ≤ n ∧ n ≤ 9223372036854775807) (w : World) : Calls Try.prog 105 #[.int .i64 n] w fun e w' => e = .returned (.string (strB (sgnB n))) ∧ Below w.heap.size w w' := by
 have hz := zig_range n
 have hp := Pure.ref01Put 100 (zigN n).toNat (by omega) (by omega)
 have he : strOfNums (ints (vb (zigN n).toNat)) = strB (sgnB n) := by
  apply ByteArray.ext
  apply Array.ext'
  rw [strOf_ints]
  unfold sgnB numB strB
  rw [show zigN n % 18446744073709551616 = zigN n by omega]
 rw [he, show (((zigN n).toNat : Nat) : Int) = zigN n by omega] at hp
 have HP := Lib.hid hp
 have HN := Lib.hid hn
 clear he hp hn hz
 go_enter Try.func105, Try.ntmps105
 go_wp2_with (first | (go_at_call 112; refine (zig_calls n HN.out _).mono ?_; rintro e w1 ⟨rfl, rfl⟩) | (go_at_call 48; refine (dioramaref01_Put.calls 100 _ _ _ HP.out).mono ?_; rintro e w1 ⟨rfl, hb⟩))
 go_ret
 exact ⟨rfl, hb⟩
theorem fits_calls (n : Int) (w : World) : Calls Try.prog 79 #[.int .i64 n] w fun e w' => e = .returned (.bool (!noB n)) ∧ w = w' := by
 unfold noB
 by_cases h0 : 0 ≤ n
 ·have t1 : decide (0 ≤ n) = true := decide_eq_true h0
  by_cases h1 : n ≤ 16777216
  ·have t2 : decide (n ≤ 16777216) = true := decide_eq_true h1
   rw [decide_eq_false (by omega)]
   clear h0 h1
   go_enter Try.func79, Try.ntmps79
   go_wp2_with fail
   go_ret
   exact ⟨rfl, rfl⟩
  ·have t2 : decide (n ≤ 16777216) = false := decide_eq_false h1
   rw [decide_eq_true (by omega)]
   clear h0 h1
   go_enter Try.func79, Try.ntmps79
   go_wp2_with fail
   go_ret
   exact ⟨rfl, rfl⟩
 ·have t1 : decide (0 ≤ n) = false := decide_eq_false h0
  rw [decide_eq_true (by omega)]
  clear h0
  go_enter Try.func79, Try.ntmps79
  go_wp2_with fail
  go_ret
  exact ⟨rfl, rfl⟩
set_option maxHeartbeats 8000000 in
set_option maxRecDepth 100000 in
theorem sets_calls (l2 : List S127) (A : Option Addr) (c : Nat) (w : World) (g2 : k127.C w A l2.length l2) (hng : ∀ s ∈ l2, -9223372036854775808 ≤ s.f2 ∧ s.f2 ≤ 9223372036854775807) (hlen : (numB l2.length ++ l2.flatMap setB).length ≤ 140737488355328) :
  Calls Try.prog 80 #[.slice A l2.length c] w fun e w' => e = .returned (.tuple #[.string (refSets l2).1, .bool (refSets l2).2]) ∧ Below w.heap.size w w' := by
 have hr := g2
 have G2 := Lib.hid g2
 have LL : Hid (l2.length ≤ 9223372036854775807) := Lib.hid g2.2.1
 obtain ⟨T, hT⟩ : ∃ T, numB l2.length ++ l2.flatMap setB = T := ⟨_, rfl⟩
 obtain ⟨R, hR⟩ : ∃ R, R = refSets l2 := ⟨_, rfl⟩
 rw [← hR]
 have HR := Lib.hid hR
 have LT : T.length ≤ 140737488355328 := by rw [← hT]; exact hlen
 have HT0 := Lib.hid hT
 have HNg := Lib.hid hng
 clear hr g2 hT hlen hng hR
 go_enter Try.func80, Try.ntmps80
 go_wp2_with (go_at_call 60; refine (num_calls (l2.length : Int) _).mono ?_; rintro e w1 ⟨rfl, hb1⟩)
 have HB1 := Lib.hid (below_step (Below.refl _ _) hb1)
 clear hb1
 go_loopw [2, 3, 4, 5] (fun a b s i wr => a = .string ⟨#[]⟩ ∧ b = .bool false ∧ ∃ n : Nat, n ≤ l2.length ∧ i = .int .i64 n ∧ ∃ acc, s = .string (strB acc) ∧ Hid (Below w.heap.size w wr) ∧ Hid (acc ++ (l2.drop n).flatMap setB = T) ∧ Hid ((l2.drop n).any setNo = l2.any setNo)) (fun _ _ _ i _ => l2.length - (intOf i).toNat)
 case atStart => exact ⟨rfl, rfl, 0, Nat.zero_le _, rfl, _, rfl, HB1, HT0, Lib.hid rfl⟩
 case round =>
  obtain ⟨rfl, rfl, n, hn, rfl, acc, rfl, HB_, HT_, HF_⟩ := hrel
  by_cases hlt : n < l2.length
  ·have hd : decide ((n : Int) < (l2.length : Int)) = true := decide_eq_true (by omega)
   have HLT := Lib.hid hlt
   have GB := Lib.hid (Kd.C_below G2.out HB_.out)
   obtain ⟨ad, hA, hc0, hc1, hc2, hc3⟩ := at_T127 GB.out (n : Int) (by omega) (by omega)
   subst hA
   rw [Int.toNat_natCast, rd127 hlt] at hc0 hc1 hc2 hc3
   have hdr : l2.drop n = l2[n] :: l2.drop (n + 1) := List.drop_eq_getElem_cons hlt
   rw [hdr, List.flatMap_cons] at HT_
   rw [hdr, List.any_cons] at HF_
   clear hdr
   have hrg := HNg.out _ (List.getElem_mem hlt)
   generalize l2[n] = s at hc0 hc1 hc2 hc3 HT_ HF_ hrg
   clear hlt hn
   obtain ⟨st, sf, sn, ss⟩ := s
   dsimp only at hc0 hc1 hc2 hc3 hrg
   have HRG := Lib.hid hrg
   clear hrg GB
   skip
   cases hq : noB sf with
   | true =>
    go_wp2_with (go_at_call 79; refine (fits_calls _ _).mono ?_; rintro e w2 ⟨rfl, rfl⟩)
    have hany : l2.any setNo = true := by rw [← HF_.out]; exact Bool.or_eq_true_iff.mpr (.inl (by cases st <;> simp [setNo, hq]))
    have hE : R = (⟨#[]⟩, false) := by rw [HR.out, refSets, if_pos hany]
    go_ret2
    exact ⟨retPair hE, HB_.out⟩
   | false =>
    cases st with
    | true =>
     by_cases hn0 : sn = 0
     ·have t1 : (sn != 0) = false := bne_eq_false_iff_eq.mpr hn0
      cases hz : noB (ss.size : Int) with
      | true =>
       clear hn0
       go_wp2_with (go_at_call 79; refine (fits_calls _ _).mono ?_; rintro e w2 ⟨rfl, rfl⟩)
       have hany : l2.any setNo = true := by rw [← HF_.out]; exact Bool.or_eq_true_iff.mpr (.inl (by simp [setNo, hz]))
       have hE : R = (⟨#[]⟩, false) := by rw [HR.out, refSets, if_pos hany]
       go_ret2
       exact ⟨retPair hE, HB_.out⟩
      | false =>
       have hsn : setNo ⟨true, sf, sn, ss⟩ = false := by simp [setNo, hq, hz, hn0]
       rw [hsn, Bool.false_or] at HF_
       clear hsn hn0
       go_wp2_with (go_at_call 79; refine (fits_calls _ _).mono ?_; rintro e w2 ⟨rfl, rfl⟩)
       have HZS : Hid (ss.size ≤ 16777216) := Lib.hid (by have h_ := of_decide_eq_false hz; omega)
       clear hz
       have hTl := pre_len HT_.out
       have hsa := strB_size acc
       have hz0 := strB_size (numB 1)
       have hz1 := strB_size (numB sf)
       have hz2 := strB_size (numB (ss.size : Int))
       have x2 : (9223372036854775807 < (strB (numB 1)).size + (strB (numB sf)).size) = False := eq_false (by rw [hz0, hz1]; have := numB_len sf; have := numB_len (ss.size : Int); have := numB_len (zigN sn); have := numB_len 1; have hq_ := HZS.out; omega)
       have x3 : (9223372036854775807 < (strB (numB 1)).size + (strB (numB sf)).size + (strB (numB (ss.size : Int))).size) = False := eq_false (by rw [hz0, hz1, hz2]; have := numB_len sf; have := numB_len (ss.size : Int); have := numB_len (zigN sn); have := numB_len 1; have hq_ := HZS.out; omega)
       have x4 : (9223372036854775807 < (strB (numB 1)).size + (strB (numB sf)).size + (strB (numB (ss.size : Int))).size + ss.size) = False := eq_false (by rw [hz0, hz1, hz2]; have := numB_len sf; have := numB_len (ss.size : Int); have := numB_len (zigN sn); have := numB_len 1; have hq_ := HZS.out; omega)
       have xo : (9223372036854775807 < (strB acc).size + ((strB (numB 1)).size + (strB (numB sf)).size + (strB (numB (ss.size : Int))).size + ss.size)) = False := eq_false (by rw [hsa, hz0, hz1, hz2]; have := numB_len sf; have := numB_len (ss.size : Int); have := numB_len (zigN sn); have := numB_len 1; have hq_ := HZS.out; omega)
       clear hTl hsa hz0 hz1 hz2
       have c0 : wr.drew.cell? (ad.add (n * 4)) = _ := hc0
       have c1 : wr.drew.cell? ⟨(ad.add (n * 4)).block, (ad.add (n * 4)).off + 1, none⟩ = _ := hc1
       have c2 : wr.drew.cell? ⟨(ad.add (n * 4)).block, (ad.add (n * 4)).off + 2, none⟩ = _ := hc2
       have c3 : wr.drew.cell? ⟨(ad.add (n * 4)).block, (ad.add (n * 4)).off + 3, none⟩ = _ := hc3
       have HB2 := Lib.hid (below_drew1 HB_.out)
       clear HB_ hc0 hc1 hc2 hc3
       have HB_ := HB2
       clear HB2
       refine wp_region_held_drew (S := fun w' => w'.cell? (ad.add (n * 4)) = some (.bool true) ∧ w'.cell? ⟨(ad.add (n * 4)).block, (ad.add (n * 4)).off + 1, none⟩ = some (.int .i64 sf) ∧ w'.cell? ⟨(ad.add (n * 4)).block, (ad.add (n * 4)).off + 2, none⟩ = some (.int .i64 sn) ∧ w'.cell? ⟨(ad.add (n * 4)).block, (ad.add (n * 4)).off + 3, none⟩ = some (.string ss)) (by kernel_rfl) ⟨c0, c1, c2, c3⟩ (fun hHeld => ?_)
       refine tkz 0 rfl ?_ (.inl ⟨by rfl, ?_⟩) ?_
       rotate_left 1
       ·intro w hSw
        obtain ⟨s0, s1, s2, s3⟩ := hSw
        go_simp
        (try with_reducible rfl)
       (try simp only [Act.put, zq1, zq2, zq3, zq4, zq5, zq6])
       refine tkz 2 rfl ?_ (.inl ⟨by rfl, ?_⟩) ?_
       rotate_left 1
       ·intro w hSw
        obtain ⟨s0, s1, s2, s3⟩ := hSw
        go_simp
        (try with_reducible rfl)
       (try simp only [Act.put, zq1, zq2, zq3, zq4, zq5, zq6])
       refine tkz 3 rfl ?_ (.inl ⟨by rfl, ?_⟩) ?_
       rotate_left 1
       ·intro w hSw
        obtain ⟨s0, s1, s2, s3⟩ := hSw
        go_simp
        (try with_reducible rfl)
       (try simp only [Act.put, zq1, zq2, zq3, zq4, zq5, zq6])
       refine tkz 4 rfl ?_ (.inl ⟨by rfl, ?_⟩) ?_
       rotate_left 1
       ·intro w hSw
        obtain ⟨s0, s1, s2, s3⟩ := hSw
        go_simp
        (try with_reducible rfl)
       (try simp only [Act.put, zq1, zq2, zq3, zq4, zq5, zq6])
       refine tkz 5 rfl ?_ (.inl ⟨by rfl, ?_⟩) ?_
       rotate_left 1
       ·intro w hSw
        obtain ⟨s0, s1, s2, s3⟩ := hSw
        go_simp
        (try with_reducible rfl)
       (try simp only [Act.put, zq1, zq2, zq3, zq4, zq5, zq6])
       refine tkz 6 rfl ?_ (.inl ⟨by rfl, ?_⟩) ?_
       rotate_left 1
       ·intro w hSw
        obtain ⟨s0, s1, s2, s3⟩ := hSw
        go_simp
        (try with_reducible rfl)
       (try simp only [Act.put, zq1, zq2, zq3, zq4, zq5, zq6])
       refine tkz 9 rfl ?_ (.inl ⟨by rfl, ?_⟩) ?_
       rotate_left 1
       ·intro w hSw
        obtain ⟨s0, s1, s2, s3⟩ := hSw
        go_simp
        (try with_reducible rfl)
       (try simp only [Act.put, zq1, zq2, zq3, zq4, zq5, zq6])
       refine tkz 10 rfl ?_ (.inl ⟨by rfl, ?_⟩) ?_
       rotate_left 1
       ·intro w hSw
        obtain ⟨s0, s1, s2, s3⟩ := hSw
        go_simp
        (try with_reducible rfl)
       (try simp only [Act.put, zq1, zq2, zq3, zq4, zq5, zq6])
       refine tkz 11 rfl ?_ (.inl ⟨by rfl, ?_⟩) ?_
       rotate_left 1
       ·intro w hSw
        obtain ⟨s0, s1, s2, s3⟩ := hSw
        go_simp
        (try with_reducible rfl)
       (try simp only [Act.put, zq1, zq2, zq3, zq4, zq5, zq6])
       refine tkz 12 rfl ?_ (.inl ⟨by rfl, ?_⟩) ?_
       rotate_left 1
       ·intro w hSw
        obtain ⟨s0, s1, s2, s3⟩ := hSw
        go_simp
        (try with_reducible rfl)
       (try simp only [Act.put, zq1, zq2, zq3, zq4, zq5, zq6])
       refine tkz 13 rfl ?_ (.inl ⟨by rfl, ?_⟩) ?_
       rotate_left 1
       ·intro w hSw
        obtain ⟨s0, s1, s2, s3⟩ := hSw
        go_simp
        (try with_reducible rfl)
       (try simp only [Act.put, zq1, zq2, zq3, zq4, zq5, zq6])
       refine tkz 14 rfl ?_ (.inl ⟨by rfl, ?_⟩) ?_
       rotate_left 1
       ·intro w hSw
        obtain ⟨s0, s1, s2, s3⟩ := hSw
        go_simp
        (try with_reducible rfl)
       (try simp only [Act.put, zq1, zq2, zq3, zq4, zq5, zq6])
       refine tkz 17 rfl ?_ (.inl ⟨by rfl, ?_⟩) ?_
       rotate_left 1
       ·intro w hSw
        obtain ⟨s0, s1, s2, s3⟩ := hSw
        go_simp
        (try with_reducible rfl)
       (try simp only [Act.put, zq1, zq2, zq3, zq4, zq5, zq6])
       refine tkz 18 rfl ?_ (.inl ⟨by rfl, ?_⟩) ?_
       rotate_left 1
       ·intro w hSw
        obtain ⟨s0, s1, s2, s3⟩ := hSw
        go_simp
        (try with_reducible rfl)
       (try simp only [Act.put, zq1, zq2, zq3, zq4, zq5, zq6])
       refine tkz 19 rfl ?_ (.inl ⟨by rfl, ?_⟩) ?_
       rotate_left 1
       ·intro w hSw
        obtain ⟨s0, s1, s2, s3⟩ := hSw
        go_simp
        (try with_reducible rfl)
       (try simp only [Act.put, zq1, zq2, zq3, zq4, zq5, zq6])
       refine tkz 20 rfl ?_ (.inl ⟨by rfl, ?_⟩) ?_
       rotate_left 1
       ·intro w hSw
        obtain ⟨s0, s1, s2, s3⟩ := hSw
        go_simp
        (try with_reducible rfl)
       (try simp only [Act.put, zq1, zq2, zq3, zq4, zq5, zq6])
       refine tkz 21 rfl ?_ (.inl ⟨by rfl, ?_⟩) ?_
       rotate_left 1
       ·intro w hSw
        obtain ⟨s0, s1, s2, s3⟩ := hSw
        go_simp
        (try with_reducible rfl)
       (try simp only [Act.put, zq1, zq2, zq3, zq4, zq5, zq6])
       refine wpAnyH_ready (rs := [1]) (by kernel_rfl) (by simp) ?_
       refine AllReadyH.cons (o := _) rfl (fun K hK => ?_) AllReadyH.nil
       go_simp
       go_at_call 60
       refine (num_calls (1) _).mono ?_
       rintro e w3 ⟨rfl, hb_⟩
       have c0_ := pw_cell_below hb_ c0
       have c1_ := pw_cell_below hb_ c1
       have c2_ := pw_cell_below hb_ c2
       have c3_ := pw_cell_below hb_ c3
       have HB2 := Lib.hid (below_step HB_.out hb_)
       clear c0 c1 c2 c3 hb_ HB_
       have HB_ := HB2
       clear HB2
       have c0 := c0_
       have c1 := c1_
       have c2 := c2_
       have c3 := c3_
       clear c0_ c1_ c2_ c3_
       refine hK.out _ _ ⟨c0, c1, c2, c3⟩ (fun hHeld => ?_)
       clear hK K
       (try simp only [Act.put, zq1, zq2, zq3, zq4, zq5, zq6])
       refine wpAnyH_ready (rs := [7]) (by kernel_rfl) (by simp) ?_
       refine AllReadyH.cons (o := _) rfl (fun K hK => ?_) AllReadyH.nil
       go_simp
       go_at_call 60
       refine (num_calls (sf) _).mono ?_
       rintro e w4 ⟨rfl, hb_⟩
       have c0_ := pw_cell_below hb_ c0
       have c1_ := pw_cell_below hb_ c1
       have c2_ := pw_cell_below hb_ c2
       have c3_ := pw_cell_below hb_ c3
       have HB2 := Lib.hid (below_step HB_.out hb_)
       clear c0 c1 c2 c3 hb_ HB_
       have HB_ := HB2
       clear HB2
       have c0 := c0_
       have c1 := c1_
       have c2 := c2_
       have c3 := c3_
       clear c0_ c1_ c2_ c3_
       refine hK.out _ _ ⟨c0, c1, c2, c3⟩ (fun hHeld => ?_)
       clear hK K
       (try simp only [Act.put, zq1, zq2, zq3, zq4, zq5, zq6])
       refine tkz 8 rfl ?_ (.inl ⟨by rfl, ?_⟩) ?_
       rotate_left 1
       ·intro w hSw
        obtain ⟨s0, s1, s2, s3⟩ := hSw
        go_simp
        (try with_reducible rfl)
       (try simp only [Act.put, zq1, zq2, zq3, zq4, zq5, zq6])
       refine wpAnyH_ready (rs := [15]) (by kernel_rfl) (by simp) ?_
       refine AllReadyH.cons (o := _) rfl (fun K hK => ?_) AllReadyH.nil
       go_simp
       go_at_call 60
       refine (num_calls (ss.size) _).mono ?_
       rintro e w5 ⟨rfl, hb_⟩
       have c0_ := pw_cell_below hb_ c0
       have c1_ := pw_cell_below hb_ c1
       have c2_ := pw_cell_below hb_ c2
       have c3_ := pw_cell_below hb_ c3
       have HB2 := Lib.hid (below_step HB_.out hb_)
       clear c0 c1 c2 c3 hb_ HB_
       have HB_ := HB2
       clear HB2
       have c0 := c0_
       have c1 := c1_
       have c2 := c2_
       have c3 := c3_
       clear c0_ c1_ c2_ c3_
       refine hK.out _ _ ⟨c0, c1, c2, c3⟩ (fun hHeld => ?_)
       clear hK K
       (try simp only [Act.put, zq1, zq2, zq3, zq4, zq5, zq6])
       refine tkz 16 rfl ?_ (.inl ⟨by rfl, ?_⟩) ?_
       rotate_left 1
       ·intro w hSw
        obtain ⟨s0, s1, s2, s3⟩ := hSw
        go_simp
        (try with_reducible rfl)
       (try simp only [Act.put, zq1, zq2, zq3, zq4, zq5, zq6])
       refine tkz 22 rfl ?_ (.inl ⟨by rfl, ?_⟩) ?_
       rotate_left 1
       ·intro w hSw
        obtain ⟨s0, s1, s2, s3⟩ := hSw
        go_simp
        (try with_reducible rfl)
       (try simp only [Act.put, zq1, zq2, zq3, zq4, zq5, zq6])
       refine tkz 23 rfl ?_ (.inl ⟨by rfl, ?_⟩) ?_
       rotate_left 1
       ·intro w hSw
        obtain ⟨s0, s1, s2, s3⟩ := hSw
        go_simp
        (try with_reducible rfl)
       (try simp only [Act.put, zq1, zq2, zq3, zq4, zq5, zq6])
       refine tkz 24 rfl ?_ (.inl ⟨by rfl, ?_⟩) ?_
       rotate_left 1
       ·intro w hSw
        obtain ⟨s0, s1, s2, s3⟩ := hSw
        go_simp
        (try with_reducible rfl)
       (try simp only [Act.put, zq1, zq2, zq3, zq4, zq5, zq6])
       refine wpAnyH_done (by kernel_rfl) ?_ _
       go_wp2_with fail
       go_roundw
       case rel => exact ⟨rfl, rfl, n + 1, HLT.out, by rw [wrap_succ HLT.out LL.out], acc ++ setB ⟨true, sf, sn, ss⟩, by rw [setB]; show Value.string (strB acc ++ (strB (numB 1) ++ strB (numB sf) ++ strB (numB ss.size) ++ strB ss.data.toList)) = _; simp only [if_true, strB_app, txtB, List.append_assoc], HB_, Lib.hid (by rw [List.append_assoc]; exact HT_.out), HF_⟩
       case measure => rw [wrap_succ HLT.out LL.out]; have := HLT.out; simp [intOf]; omega
     ·have t1 : (sn != 0) = true := bne_iff_ne.mpr hn0
      clear hn0
      go_wp2_with (go_at_call 79; refine (fits_calls _ _).mono ?_; rintro e w2 ⟨rfl, rfl⟩)
      have hany : l2.any setNo = true := by rw [← HF_.out]; exact Bool.or_eq_true_iff.mpr (.inl (by have hn0 : sn ≠ 0 := bne_iff_ne.mp t1; simp [setNo, hn0]))
      have hE : R = (⟨#[]⟩, false) := by rw [HR.out, refSets, if_pos hany]
      go_ret2
      exact ⟨retPair hE, HB_.out⟩
    | false =>
     cases he : ss.toList.isEmpty with
     | false =>
      go_wp2_with (go_at_call 79; refine (fits_calls _ _).mono ?_; rintro e w2 ⟨rfl, rfl⟩)
      have hany : l2.any setNo = true := by rw [← HF_.out]; exact Bool.or_eq_true_iff.mpr (.inl (by simp [setNo, he]))
      have hE : R = (⟨#[]⟩, false) := by rw [HR.out, refSets, if_pos hany]
      go_ret2
      exact ⟨retPair hE, HB_.out⟩
     | true =>
      have hsn : setNo ⟨false, sf, sn, ss⟩ = false := by simp [setNo, hq, he]
      rw [hsn, Bool.false_or] at HF_
      clear hsn
      go_wp2_with (go_at_call 79; refine (fits_calls _ _).mono ?_; rintro e w2 ⟨rfl, rfl⟩)
      have hTl := pre_len HT_.out
      have hsa := strB_size acc
      have hz0 := strB_size (numB 0)
      have hz1 := strB_size (numB sf)
      have hz2 := strB_size (sgnB sn)
      have x2 : (9223372036854775807 < (strB (numB 0)).size + (strB (numB sf)).size) = False := eq_false (by rw [hz0, hz1]; have := numB_len sf; have := numB_len (ss.size : Int); have := numB_len (zigN sn); have := numB_len 0; have : (sgnB sn).length ≤ 10 := numB_len (zigN sn); omega)
      have x3 : (9223372036854775807 < (strB (numB 0)).size + (strB (numB sf)).size + (strB (sgnB sn)).size) = False := eq_false (by rw [hz0, hz1, hz2]; have := numB_len sf; have := numB_len (ss.size : Int); have := numB_len (zigN sn); have := numB_len 0; have : (sgnB sn).length ≤ 10 := numB_len (zigN sn); omega)
      have xo : (9223372036854775807 < (strB acc).size + ((strB (numB 0)).size + (strB (numB sf)).size + (strB (sgnB sn)).size)) = False := eq_false (by rw [hsa, hz0, hz1, hz2]; have := numB_len sf; have := numB_len (ss.size : Int); have := numB_len (zigN sn); have := numB_len 0; have : (sgnB sn).length ≤ 10 := numB_len (zigN sn); omega)
      clear hTl hsa hz0 hz1 hz2
      have c0 : wr.drew.cell? (ad.add (n * 4)) = _ := hc0
      have c1 : wr.drew.cell? ⟨(ad.add (n * 4)).block, (ad.add (n * 4)).off + 1, none⟩ = _ := hc1
      have c2 : wr.drew.cell? ⟨(ad.add (n * 4)).block, (ad.add (n * 4)).off + 2, none⟩ = _ := hc2
      have c3 : wr.drew.cell? ⟨(ad.add (n * 4)).block, (ad.add (n * 4)).off + 3, none⟩ = _ := hc3
      have HB2 := Lib.hid (below_drew1 HB_.out)
      clear HB_ hc0 hc1 hc2 hc3
      have HB_ := HB2
      clear HB2
      refine wp_region_held_drew (S := fun w' => w'.cell? (ad.add (n * 4)) = some (.bool false) ∧ w'.cell? ⟨(ad.add (n * 4)).block, (ad.add (n * 4)).off + 1, none⟩ = some (.int .i64 sf) ∧ w'.cell? ⟨(ad.add (n * 4)).block, (ad.add (n * 4)).off + 2, none⟩ = some (.int .i64 sn) ∧ w'.cell? ⟨(ad.add (n * 4)).block, (ad.add (n * 4)).off + 3, none⟩ = some (.string ss)) (by kernel_rfl) ⟨c0, c1, c2, c3⟩ (fun hHeld => ?_)
      refine tkz 0 rfl ?_ (.inl ⟨by rfl, ?_⟩) ?_
      rotate_left 1
      ·intro w hSw
       obtain ⟨s0, s1, s2, s3⟩ := hSw
       go_simp
       (try with_reducible rfl)
      (try simp only [Act.put, zq1, zq2, zq3, zq4, zq5, zq6])
      refine tkz 2 rfl ?_ (.inl ⟨by rfl, ?_⟩) ?_
      rotate_left 1
      ·intro w hSw
       obtain ⟨s0, s1, s2, s3⟩ := hSw
       go_simp
       (try with_reducible rfl)
      (try simp only [Act.put, zq1, zq2, zq3, zq4, zq5, zq6])
      refine tkz 3 rfl ?_ (.inl ⟨by rfl, ?_⟩) ?_
      rotate_left 1
      ·intro w hSw
       obtain ⟨s0, s1, s2, s3⟩ := hSw
       go_simp
       (try with_reducible rfl)
      (try simp only [Act.put, zq1, zq2, zq3, zq4, zq5, zq6])
      refine tkz 4 rfl ?_ (.inl ⟨by rfl, ?_⟩) ?_
      rotate_left 1
      ·intro w hSw
       obtain ⟨s0, s1, s2, s3⟩ := hSw
       go_simp
       (try with_reducible rfl)
      (try simp only [Act.put, zq1, zq2, zq3, zq4, zq5, zq6])
      refine tkz 5 rfl ?_ (.inl ⟨by rfl, ?_⟩) ?_
      rotate_left 1
      ·intro w hSw
       obtain ⟨s0, s1, s2, s3⟩ := hSw
       go_simp
       (try with_reducible rfl)
      (try simp only [Act.put, zq1, zq2, zq3, zq4, zq5, zq6])
      refine tkz 6 rfl ?_ (.inl ⟨by rfl, ?_⟩) ?_
      rotate_left 1
      ·intro w hSw
       obtain ⟨s0, s1, s2, s3⟩ := hSw
       go_simp
       (try with_reducible rfl)
      (try simp only [Act.put, zq1, zq2, zq3, zq4, zq5, zq6])
      refine tkz 9 rfl ?_ (.inl ⟨by rfl, ?_⟩) ?_
      rotate_left 1
      ·intro w hSw
       obtain ⟨s0, s1, s2, s3⟩ := hSw
       go_simp
       (try with_reducible rfl)
      (try simp only [Act.put, zq1, zq2, zq3, zq4, zq5, zq6])
      refine tkz 10 rfl ?_ (.inl ⟨by rfl, ?_⟩) ?_
      rotate_left 1
      ·intro w hSw
       obtain ⟨s0, s1, s2, s3⟩ := hSw
       go_simp
       (try with_reducible rfl)
      (try simp only [Act.put, zq1, zq2, zq3, zq4, zq5, zq6])
      refine tkz 11 rfl ?_ (.inl ⟨by rfl, ?_⟩) ?_
      rotate_left 1
      ·intro w hSw
       obtain ⟨s0, s1, s2, s3⟩ := hSw
       go_simp
       (try with_reducible rfl)
      (try simp only [Act.put, zq1, zq2, zq3, zq4, zq5, zq6])
      refine tkz 12 rfl ?_ (.inl ⟨by rfl, ?_⟩) ?_
      rotate_left 1
      ·intro w hSw
       obtain ⟨s0, s1, s2, s3⟩ := hSw
       go_simp
       (try with_reducible rfl)
      (try simp only [Act.put, zq1, zq2, zq3, zq4, zq5, zq6])
      refine tkz 13 rfl ?_ (.inl ⟨by rfl, ?_⟩) ?_
      rotate_left 1
      ·intro w hSw
       obtain ⟨s0, s1, s2, s3⟩ := hSw
       go_simp
       (try with_reducible rfl)
      (try simp only [Act.put, zq1, zq2, zq3, zq4, zq5, zq6])
      refine wpAnyH_ready (rs := [1]) (by kernel_rfl) (by simp) ?_
      refine AllReadyH.cons (o := _) rfl (fun K hK => ?_) AllReadyH.nil
      go_simp
      go_at_call 60
      refine (num_calls (0) _).mono ?_
      rintro e w3 ⟨rfl, hb_⟩
      have c0_ := pw_cell_below hb_ c0
      have c1_ := pw_cell_below hb_ c1
      have c2_ := pw_cell_below hb_ c2
      have c3_ := pw_cell_below hb_ c3
      have HB2 := Lib.hid (below_step HB_.out hb_)
      clear c0 c1 c2 c3 hb_ HB_
      have HB_ := HB2
      clear HB2
      have c0 := c0_
      have c1 := c1_
      have c2 := c2_
      have c3 := c3_
      clear c0_ c1_ c2_ c3_
      refine hK.out _ _ ⟨c0, c1, c2, c3⟩ (fun hHeld => ?_)
      clear hK K
      (try simp only [Act.put, zq1, zq2, zq3, zq4, zq5, zq6])
      refine wpAnyH_ready (rs := [7]) (by kernel_rfl) (by simp) ?_
      refine AllReadyH.cons (o := _) rfl (fun K hK => ?_) AllReadyH.nil
      go_simp
      go_at_call 60
      refine (num_calls (sf) _).mono ?_
      rintro e w4 ⟨rfl, hb_⟩
      have c0_ := pw_cell_below hb_ c0
      have c1_ := pw_cell_below hb_ c1
      have c2_ := pw_cell_below hb_ c2
      have c3_ := pw_cell_below hb_ c3
      have HB2 := Lib.hid (below_step HB_.out hb_)
      clear c0 c1 c2 c3 hb_ HB_
      have HB_ := HB2
      clear HB2
      have c0 := c0_
      have c1 := c1_
      have c2 := c2_
      have c3 := c3_
      clear c0_ c1_ c2_ c3_
      refine hK.out _ _ ⟨c0, c1, c2, c3⟩ (fun hHeld => ?_)
      clear hK K
      (try simp only [Act.put, zq1, zq2, zq3, zq4, zq5, zq6])
      refine tkz 8 rfl ?_ (.inl ⟨by rfl, ?_⟩) ?_
      rotate_left 1
      ·intro w hSw
       obtain ⟨s0, s1, s2, s3⟩ := hSw
       go_simp
       (try with_reducible rfl)
      (try simp only [Act.put, zq1, zq2, zq3, zq4, zq5, zq6])
      refine wpAnyH_ready (rs := [14]) (by kernel_rfl) (by simp) ?_
      refine AllReadyH.cons (o := _) rfl (fun K hK => ?_) AllReadyH.nil
      go_simp
      go_at_call 105
      refine (signed_calls (sn) HRG.out _).mono ?_
      rintro e w5 ⟨rfl, hb_⟩
      have c0_ := pw_cell_below hb_ c0
      have c1_ := pw_cell_below hb_ c1
      have c2_ := pw_cell_below hb_ c2
      have c3_ := pw_cell_below hb_ c3
      have HB2 := Lib.hid (below_step HB_.out hb_)
      clear c0 c1 c2 c3 hb_ HB_
      have HB_ := HB2
      clear HB2
      have c0 := c0_
      have c1 := c1_
      have c2 := c2_
      have c3 := c3_
      clear c0_ c1_ c2_ c3_
      refine hK.out _ _ ⟨c0, c1, c2, c3⟩ (fun hHeld => ?_)
      clear hK K
      (try simp only [Act.put, zq1, zq2, zq3, zq4, zq5, zq6])
      refine tkz 15 rfl ?_ (.inl ⟨by rfl, ?_⟩) ?_
      rotate_left 1
      ·intro w hSw
       obtain ⟨s0, s1, s2, s3⟩ := hSw
       go_simp
       (try with_reducible rfl)
      (try simp only [Act.put, zq1, zq2, zq3, zq4, zq5, zq6])
      refine tkz 16 rfl ?_ (.inl ⟨by rfl, ?_⟩) ?_
      rotate_left 1
      ·intro w hSw
       obtain ⟨s0, s1, s2, s3⟩ := hSw
       go_simp
       (try with_reducible rfl)
      (try simp only [Act.put, zq1, zq2, zq3, zq4, zq5, zq6])
      refine tkz 17 rfl ?_ (.inl ⟨by rfl, ?_⟩) ?_
      rotate_left 1
      ·intro w hSw
       obtain ⟨s0, s1, s2, s3⟩ := hSw
       go_simp
       (try with_reducible rfl)
      (try simp only [Act.put, zq1, zq2, zq3, zq4, zq5, zq6])
      refine wpAnyH_done (by kernel_rfl) ?_ _
      go_wp2_with fail
      go_roundw
      case rel => exact ⟨rfl, rfl, n + 1, HLT.out, by rw [wrap_succ HLT.out LL.out], acc ++ setB ⟨false, sf, sn, ss⟩, by rw [setB]; simp only [Bool.false_eq_true, if_false, strB_app, List.append_assoc], HB_, Lib.hid (by rw [List.append_assoc]; exact HT_.out), HF_⟩
      case measure => rw [wrap_succ HLT.out LL.out]; have := HLT.out; simp [intOf]; omega
  ·obtain rfl : n = l2.length := by omega
   have hd : decide ((l2.length : Int) < (l2.length : Int)) = false := decide_eq_false (by omega)
   rw [List.drop_of_length_le (Nat.le_refl _), List.flatMap_nil, List.append_nil] at HT_
   rw [List.drop_of_length_le (Nat.le_refl _), List.any_nil] at HF_
   have hE : R = (strB acc, true) := by rw [HR.out, refSets, if_neg (by rw [← HF_.out]; exact Bool.false_ne_true), HT0.out, HT_.out]
   go_wp2_with fail
   go_ret2
   exact ⟨retPair hE, HB_.out⟩
end Go.Proofs.Ytdjpelcdijpihaa.PrintF
