/- A part of the proof of the claim: what it uses of the text HandFrame. -/
import Derived.Test.YtdjpelcdijpihaaVHandBuilder
import Derived.Test.YtdjpelcdijpihaaVCrcBytes
import Derived.Deep.LoopGhost
import Derived.Deep.RegionHeld3
namespace Go.Proofs.Ytdjpelcdijpihaa.PrintF
open Go.RowKit Go.Proofs.Ytdjpelcdijpihaa.Print Go.Proofs.YtdjpelcdijpihaaW.PrintWords Go.Proofs.YtdjpelcdijpihaaW.PrintLast
def u8s (l : List Nat) : List UInt8 := l.map UInt8.ofNat
def le4N (n : Nat) : List Nat := [n % 256, n / 256 % 256, n / 65536 % 256, n / 16777216 % 256]
def tailN (p : ByteArray) : List UInt8 := u8s (vb p.size) ++ p.data.toList ++ u8s (le4N (sumN (bs p)))
def idN (i : Int) : UInt8 := UInt8.ofNat (i % 256).toNat
def putL : List S52 → List UInt8 → List UInt8 × Int
 | [], acc => (acc, 0)
 | s :: l, acc => if s.f0 < 1 ∨ 255 < s.f0 then ([], 4) else if 16777216 < s.f1.size then ([], 19) else putL l (acc ++ [idN s.f0] ++ tailN s.f1)
def frame_Put.f (magic : ByteArray) (version : Int) (l : List S52) : Option (ByteArray × Int) :=
 some (if magic.size ≠ 4 then (⟨#[]⟩, 6) else if version < 1 ∨ 255 < version then (⟨#[]⟩, 7) else if 8 < l.length then (⟨#[]⟩, 8) else
  (⟨(putL l (magic.data.toList ++ [idN version])).1.toArray⟩, (putL l (magic.data.toList ++ [idN version])).2))
theorem retOf {R : List UInt8 × Int} {a : List UInt8} {b : Int} (h : R = (a, b)) : Ending.returned (.tuple #[.string ⟨a.toArray⟩, .int .i64 b]) = .returned (.tuple #[.string ⟨R.1.toArray⟩, .int .i64 R.2]) := by rw [h]
theorem IsB_below {T : TypeId} {rest : List Value} {B b : Nat} {bs : List UInt8} {w w' : World} (h : IsB T rest B b bs w) (k : Below w.heap.size w w') : IsB T rest B b bs w' := by
 obtain ⟨p, v, hp, hB, hb, hown⟩ := h
 have hlt : b < w.heap.size := (Array.getElem?_eq_some_iff.1 hb).1
 exact ⟨p, v, hp, hB, by rw [k.block _ hlt]; exact hb, pw_own_below hown k⟩
theorem box_below {g : Nat} {x y : Value} {w1 w2 : World} (k : Below w1.heap.size w1 w2) (h : Hid (w1.heap[g]? = some (.cells #[x, y] 52 (0, 0)))) : w2.cell? ⟨g, 1, none⟩ = some y ∧ Hid (w2.heap[g]? = some (.cells #[x, y] 52 (0, 0))) := by
 have e : w2.heap[g]? = some (.cells #[x, y] 52 (0, 0)) := by rw [k.block _ (Array.getElem?_eq_some_iff.1 h.out).1]; exact h.out
 exact ⟨by rw [Lib.cell_of_heap e]; rfl, e⟩
theorem box_keep {g B b : Nat} {x y : Value} {w1 w2 : World} (k : KeepB B b w1 w2) (hb : g ≠ b) (h : Hid (w1.heap[g]? = some (.cells #[x, y] 52 (0, 0)))) : w2.cell? ⟨g, 1, none⟩ = some y ∧ Hid (w2.heap[g]? = some (.cells #[x, y] 52 (0, 0))) := by
 have e : w2.heap[g]? = some (.cells #[x, y] 52 (0, 0)) := by rw [k.block _ (Array.getElem?_eq_some_iff.1 h.out).1 hb (.inr fun cs fr hh => by rw [h.out] at hh; simp at hh)]; exact h.out
 exact ⟨by rw [Lib.cell_of_heap e]; rfl, e⟩
theorem chain3 {T : TypeId} {rest : List Value} {B b : Nat} {bs : List UInt8} {w w0 w1 w2 w3 : World} (h : Hid (IsB T rest B b bs w0)) (k : Hid (KeepB B b w w0)) (k1 : Below w0.heap.size w0 w1) (k2 : Below w1.heap.size w1 w2) (k3 : Below w2.heap.size w2 w3) :
  Hid (IsB T rest B b bs w3) ∧ Hid (KeepB B b w w3) ∧ w0.heap.size ≤ w3.heap.size :=
 ⟨IsB_below (IsB_below (IsB_below h.out k1) k2) k3, ((k.out.trans (KeepB.of_below k1)).trans (KeepB.of_below k2)).trans (KeepB.of_below k3), by have := k1.size; have := k2.size; have := k3.size; omega⟩
theorem writeByteI_calls {T : TypeId} {rest : List Value} {B b : Nat} {bs : List UInt8} {w : World} (hT : HasB T rest) (c : Int) (h0 : 0 ≤ c ∧ c ≤ 255) (h : IsB T rest B b bs w) (hlen : bs.length + 1 ≤ 140737488355328) (hBw : B ≤ w.heap.size) :
  Calls Try.prog 45 #[.pointer (some ⟨b, 0, none⟩), .int .u8 c] w fun e w' => e = .returned .nilIface ∧ IsB T rest B b (bs ++ [idN c]) w' ∧ KeepB B b w w' := by
 have e : (.int .u8 c : Value) = .int .u8 (idN c).toNat := by
  unfold idN
  rw [UInt8.toNat_ofNat']
  congr 1
  omega
 rw [e]
 exact writeByte_calls hT _ h hlen hBw
theorem strOf_ints {l : List Nat} : (strOfNums (ints l)).data.toList = u8s l := by
 rw [strOfNums_data]
 simp [ints, u8s]
theorem le4_ints (n : Nat) : Pure.le4 (n : Int) = ints (le4N n) := by
 simp [Pure.le4, le4N, ints]
theorem tail_eq (p : ByteArray) : (strOfNums (ints (vb p.size)) ++ p ++ strOfNums (Pure.le4 (sumN (bs p)))).data.toList = tailN p := by
 rw [le4_ints, ByteArray.data_append, ByteArray.data_append, Array.toList_append, Array.toList_append, strOf_ints, strOf_ints]
 rfl
set_option maxHeartbeats 4000000 in
set_option maxRecDepth 100000 in
theorem framePut_good (magic : ByteArray) (version : Int) (A2 : Option Addr) (c2 : Nat) (l2 : List S52) (w : World) (hr2 : Kd.C k52 w A2 l2.length l2) 
  (hm : magic.size = 4) (hv : 1 ≤ version) (hv2 : version ≤ 255) (hl : l2.length ≤ 8) :
  Calls Try.prog 30 #[.string magic, .int .i64 version, .slice A2 l2.length c2] w fun e w' => e = .returned (.tuple #[.string ⟨(putL l2 (magic.data.toList ++ [idN version])).1.toArray⟩, .int .i64 (putL l2 (magic.data.toList ++ [idN version])).2]) ∧ Below w.heap.size w w' := by
 have t1 : ((magic.size : Int) != 4) = false := by simp [hm]
 have t2 : decide (version < 1) = false := decide_eq_false (by omega)
 have t3 : decide (255 < version) = false := decide_eq_false (by omega)
 have t4 : decide (8 < (l2.length : Int)) = false := decide_eq_false (by omega)
 have hf : IsB 75 [] w.heap.size w.heap.size [] (w.alloc (.cells #[.pointer none, .slice none 0 0] 75)) := ⟨.pointer none, .slice none 0 0, .inl rfl, Nat.le_refl _, heap_alloc_new w _, ⟨by simp [Lib.byteCells], .inl ⟨rfl, rfl⟩⟩⟩
 have HF := Lib.hid hf
 have HM := Lib.hid hm
 clear hf hm
 obtain ⟨R, hR⟩ : ∃ R, R = putL l2 (magic.data.toList ++ [idN version]) := ⟨_, rfl⟩
 rw [← hR]
 have HR := Lib.hid hR
 clear hR
 go_enter Try.func30, Try.ntmps30
 go_wp2_with fail
 refine (writeString_calls hasB75 magic HF.out (by rw [HM.out]; decide) (by simp)).mono ?_
 rintro e w1 ⟨rfl, h1, k1⟩
 rw [List.nil_append] at h1
 have H1 := Lib.hid h1
 have K1 : Hid (KeepB w.heap.size w.heap.size w w1) := ((KeepB.refl _ _ _).alloc _).trans k1
 have z1 : w.heap.size < w1.heap.size := by have := k1.size; simp at this; omega
 clear h1 k1
 have hml : magic.data.toList.length = 4 := HM.out
 go_wp2_with fail
 refine (writeByteI_calls hasB75 version (by omega) H1.out (by omega) (by omega)).mono ?_
 rintro e w2 ⟨rfl, h2, k2⟩
 have H2 := Lib.hid h2
 have K2 : Hid (KeepB w.heap.size w.heap.size w w2) := K1.out.trans k2
 have z2 : w.heap.size < w2.heap.size := by have := k2.size; omega
 have HL := Lib.hid hml
 clear h2 k2 H1 K1 hml
 go_wp2_with fail
 go_loopw [6, 7, 33] (fun _ _ i wr => ∃ n : Nat, n ≤ l2.length ∧ i = .int .i64 n ∧ w.heap.size < wr.heap.size ∧ ∃ acc : List UInt8, Hid (IsB 75 [] w.heap.size w.heap.size acc wr) ∧ Hid (KeepB w.heap.size w.heap.size w wr) ∧ Hid (putL (l2.drop n) acc = R) ∧ Hid (acc ≠ []) ∧ acc.length ≤ 5 + n * 16777300)
  (fun _ _ i _ => l2.length - (intOf i).toNat)
 case atStart => exact ⟨0, Nat.zero_le _, rfl, z2, _, H2, K2, HR.out.symm, (by intro h; have := congrArg List.length h; simp at this), by have := HL.out; simp at this ⊢; omega⟩
 case round =>
  obtain ⟨n, hn, rfl, hz, acc, HI, HK, HP, HN, ha⟩ := hrel
  by_cases hlt : n < l2.length
  ·have hd : decide ((n : Int) < (l2.length : Int)) = true := decide_eq_true (by omega)
   have hrw := Kd.C_below hr2 (HK.out.below (Nat.le_refl _) (Nat.le_refl _))
   obtain ⟨ad, hA, hc0, hc1⟩ := at_T52 hrw (n : Int) (by omega) (by omega)
   subst hA
   rw [Int.toNat_natCast] at hc0 hc1
   have hdr : l2.drop n = rd_T52 l2 n :: l2.drop (n + 1) := by
    rw [List.drop_eq_getElem_cons hlt]
    simp [rd_T52, List.getD_eq_getElem?_getD, List.getElem?_eq_getElem hlt]
   rw [hdr] at HP
   clear hdr
   generalize rd_T52 l2 (n : Int) = s at *
   have HR2 := Lib.hid hr2
   clear hr2 hrw HR H2 K2 HF
   by_cases b1 : s.f0 < 1
   ·have u1 : decide (s.f0 < 1) = true := decide_eq_true b1
    have HE : Hid (R = ([], 4)) := Lib.hid (by rw [← HP.out, putL, if_pos (.inl b1)])
    clear HP
    go_wp2_with fail
    go_ret2
    exact ⟨retOf HE.out, (HK.out.below (Nat.le_refl _) (Nat.le_refl _)).alloc (by omega) _⟩
   ·have u1 : decide (s.f0 < 1) = false := decide_eq_false b1
    by_cases b2 : 255 < s.f0
    ·have u2 : decide (255 < s.f0) = true := decide_eq_true b2
     have HE : Hid (R = ([], 4)) := Lib.hid (by rw [← HP.out, putL, if_pos (.inr b2)])
     clear HP
     go_wp2_with fail
     go_ret2
     exact ⟨retOf HE.out, (HK.out.below (Nat.le_refl _) (Nat.le_refl _)).alloc (by omega) _⟩
    ·have u2 : decide (255 < s.f0) = false := decide_eq_false b2
     by_cases b3 : 16777216 < s.f1.size
     ·have u3 : decide (16777216 < (s.f1.size : Int)) = true := decide_eq_true (by omega)
      have HE : Hid (R = ([], 19)) := Lib.hid (by rw [← HP.out, putL, if_neg (by omega), if_pos b3])
      clear HP
      go_wp2_with fail
      go_ret2
      exact ⟨retOf HE.out, (HK.out.below (Nat.le_refl _) (Nat.le_refl _)).alloc (by omega) _⟩
     ·have u3 : decide (16777216 < (s.f1.size : Int)) = false := decide_eq_false (by omega)
      have HE : Hid (putL (l2.drop (n + 1)) (acc ++ [idN s.f0] ++ tailN s.f1) = R) := Lib.hid (by rw [← HP.out, putL, if_neg (by omega), if_neg b3])
      clear HP
      have HI2 : Hid (IsB 75 [] w.heap.size w.heap.size acc (wr.alloc (.cells #[.int .i64 s.f0, .string s.f1] 52))) := Lib.hid (IsB_below HI.out ((Below.refl _ _).alloc (Nat.le_refl _) _))
      have K0 : Hid (KeepB w.heap.size w.heap.size w (wr.alloc (.cells #[.int .i64 s.f0, .string s.f1] 52))) := Lib.hid (HK.out.alloc _)
      have HX := Lib.hid (heap_alloc_new wr (.cells #[.int .i64 s.f0, .string s.f1] 52))
      clear HI HK
      go_wp2_with fail
      refine (writeByteI_calls hasB75 s.f0 (by omega) HI2.out (by omega) (by simp; omega)).mono ?_
      rintro e w3 ⟨rfl, h3, k3⟩
      have hx : w3.heap[wr.heap.size]? = some (.cells #[.int .i64 s.f0, .string s.f1] 52 (0, 0)) := by
       rw [k3.block _ (by simp) (by omega) (.inr fun cs fr h => by rw [HX.out] at h; simp at h)]
       exact HX.out
      have H3 := Lib.hid h3
      have K3 := Lib.hid (K0.out.trans k3)
      have z3 : wr.heap.size < w3.heap.size := by have := k3.size; simp at this; omega
      have x1 : w3.cell? ⟨wr.heap.size, 1, none⟩ = some (.string s.f1) := by rw [Lib.cell_of_heap hx]; rfl
      have HX3 := Lib.hid hx
      clear h3 k3 hx HX HI2 K0
      obtain ⟨v, hv0⟩ : ∃ v, v = strOfNums (ints (vb s.f1.size)) := ⟨_, rfl⟩
      obtain ⟨c, hc9⟩ : ∃ c, c = strOfNums (Pure.le4 (sumN (bs s.f1))) := ⟨_, rfl⟩
      have hvs : v.size ≤ 10 := by rw [hv0, strOfNums_size]; simpa [ints] using vb_len s.f1.size
      have hcs : c.size = 4 := by rw [hc9, strOfNums_size]; rfl
      have f1 : (9223372036854775807 < v.size + s.f1.size) = False := eq_false (by omega)
      have f2 : (9223372036854775807 < v.size + s.f1.size + c.size) = False := eq_false (by omega)
      have HCS := Lib.hid hcs
      clear hcs
      have HV : Hid (varint_Put.f 10 (s.f1.size : Int) = some v) := Lib.hid (by rw [hv0]; exact varPut_eq _ (by omega))
      have HS := Lib.hid (sum_eq s.f1 (by omega))
      have HC : Hid (crc_Put.f (sumN (bs s.f1)) = some c) := Lib.hid (by rw [hc9]; rfl)
      have HT : Hid ((v ++ s.f1 ++ c).data.toList = tailN s.f1) := Lib.hid (by rw [hv0, hc9]; exact tail_eq s.f1)
      clear hv0 hc9
      have hw0 : IntKind.u64.wrap (s.f1.size : Int) = (s.f1.size : Int) := by rw [IntKind.wrap_u64]; omega
      go_wp2_with fail
      generalize (sumN (bs s.f1) : Int) = sm at HS HC
      generalize s.f1 = pl at *
      generalize hgX : wr.heap.size = gX at *
      have x1d : w3.drew.cell? ⟨gX, 1, none⟩ = some (.string pl) := x1
      have H3d : Hid (IsB 75 [] w.heap.size w.heap.size (acc ++ [idN s.f0]) w3.drew) := Lib.hid (IsB_below H3.out (Below.drew (Below.refl _ _)))
      have K3d : Hid (KeepB w.heap.size w.heap.size w w3.drew) := Lib.hid K3.out.drew
      have z3d : gX < w3.drew.heap.size := z3
      have HXd : Hid (w3.drew.heap[gX]? = some (.cells #[.int .i64 s.f0, .string pl] 52 (0, 0))) := HX3
      go_region_held3 (fun w' => w'.cell? ⟨gX, 1, none⟩ = some (.string pl) ∧ Hid (w'.heap[gX]? = some (.cells #[.int .i64 s.f0, .string pl] 52 (0, 0))))
       (first
        | exact ⟨x1d, HXd⟩
        | (go_split_ands; exact box_keep k7 (by omega) (by assumption))
        | (go_split_ands; exact box_below hb6 (by assumption))
        | (go_split_ands; exact box_below hb5 (by assumption))
        | (go_split_ands; exact box_below hb4 (by assumption)))
       (first
        | (go_at_call 46; refine (varint_Put.calls 10 _ _ _ HV.out).mono ?_; rintro e w4 ⟨rfl, hb4⟩)
        | (go_at_call 20; refine (crc_Sum.calls _ _ _ HS.out).mono ?_; rintro e w5 ⟨rfl, hb5⟩)
        | (go_at_call 24; refine (crc_Put.calls _ _ _ HC.out).mono ?_; rintro e w6 ⟨rfl, hb6⟩)
        | (go_at_call 44; obtain ⟨HIc, HKc, hzc⟩ := (by first | exact chain3 H3d K3d hb4 hb5 hb6 | exact chain3 H3d K3d hb5 hb4 hb6 | exact chain3 H3d K3d hb5 hb6 hb4 : Hid (IsB 75 [] w.heap.size w.heap.size (acc ++ [idN s.f0]) _) ∧ Hid (KeepB w.heap.size w.heap.size w _) ∧ w3.drew.heap.size ≤ _); refine (writeString_calls (bs := acc ++ [idN s.f0]) hasB75 _ HIc.out (by simp only [List.length_append, ByteArray.size_append, List.length_cons, List.length_nil]; have := HCS.out; omega) (by omega)).mono ?_; rintro e w7 ⟨rfl, h7, k7⟩))
      all_goals
       have H7 : Hid (IsB 75 [] w.heap.size w.heap.size (acc ++ [idN s.f0] ++ tailN pl) w7) := Lib.hid (by rw [← HT.out]; exact h7)
       have K7 := Lib.hid (HKc.out.trans k7)
       have z7 : w.heap.size < w7.heap.size := by have := k7.size; have : w3.drew.heap.size = w3.heap.size := rfl; omega
       have l7 : Hid ((acc ++ [idN s.f0] ++ tailN pl).length ≤ 5 + (n + 1) * 16777300) := Lib.hid (by
        have := HT.out
        rw [← this]
        simp only [List.length_append, List.length_cons, List.length_nil, Array.length_toList, ByteArray.size_data, ByteArray.size_append]
        have := HCS.out
        omega)
       clear h7 k7 HIc HKc
       go_wp2_with fail
       go_roundw
       case rel => exact ⟨n + 1, by omega, by go_num, z7, _, H7, K7, HE, (by intro h; have := congrArg List.length h; simp at this), l7.out⟩
       case measure => simp [intOf]; omega
  ·obtain rfl : n = l2.length := by omega
   rw [List.drop_of_length_le (Nat.le_refl _)] at HP
   have hd : decide ((l2.length : Int) < (l2.length : Int)) = false := decide_eq_false (by omega)
   go_wp2_with fail
   refine (string_calls HI.out HN.out).mono ?_
   rintro e w3 ⟨rfl, hb⟩
   go_wp2_with fail
   go_ret2
   refine ⟨?_, (HK.out.below (Nat.le_refl _) (Nat.le_refl _)).trans hb⟩
   rw [← HP.out]
   rfl
set_option maxHeartbeats 4000000 in
set_option maxRecDepth 100000 in
theorem framePut_magic (magic : ByteArray) (version : Int) (A2 : Option Addr) (n c2 : Nat) (w : World) (hm : ¬ magic.size = 4) :
  Calls Try.prog 30 #[.string magic, .int .i64 version, .slice A2 n c2] w fun e w' => e = .returned (.tuple #[.string ⟨#[]⟩, .int .i64 6]) ∧ Below w.heap.size w w' := by
 have t1 : ((magic.size : Int) != 4) = true := by simp; omega
 go_enter Try.func30, Try.ntmps30
 go_wp2_with fail
 go_ret2
 exact ⟨rfl, Below.refl _ _⟩
set_option maxHeartbeats 4000000 in
set_option maxRecDepth 100000 in
theorem framePut_version (magic : ByteArray) (version : Int) (A2 : Option Addr) (n c2 : Nat) (w : World) (hm : magic.size = 4) (hv : version < 1 ∨ 255 < version) :
  Calls Try.prog 30 #[.string magic, .int .i64 version, .slice A2 n c2] w fun e w' => e = .returned (.tuple #[.string ⟨#[]⟩, .int .i64 7]) ∧ Below w.heap.size w w' := by
 have t1 : ((magic.size : Int) != 4) = false := by simp [hm]
 clear hm
 rcases hv with hv | hv
 ·have t2 : decide (version < 1) = true := decide_eq_true hv
  go_enter Try.func30, Try.ntmps30
  go_wp2_with fail
  go_ret2
  exact ⟨rfl, Below.refl _ _⟩
 ·have t2 : decide (version < 1) = false := decide_eq_false (by omega)
  have t3 : decide (255 < version) = true := decide_eq_true hv
  go_enter Try.func30, Try.ntmps30
  go_wp2_with fail
  go_ret2
  exact ⟨rfl, Below.refl _ _⟩
set_option maxHeartbeats 4000000 in
set_option maxRecDepth 100000 in
theorem framePut_more (magic : ByteArray) (version : Int) (A2 : Option Addr) (n c2 : Nat) (w : World) (hm : magic.size = 4) (hv : 1 ≤ version) (hv2 : version ≤ 255) (hn : 8 < n) :
  Calls Try.prog 30 #[.string magic, .int .i64 version, .slice A2 n c2] w fun e w' => e = .returned (.tuple #[.string ⟨#[]⟩, .int .i64 8]) ∧ Below w.heap.size w w' := by
 have t1 : ((magic.size : Int) != 4) = false := by simp [hm]
 have t2 : decide (version < 1) = false := decide_eq_false (by omega)
 have t3 : decide (255 < version) = false := decide_eq_false (by omega)
 have t4 : decide (8 < (n : Int)) = true := decide_eq_true (by omega)
 clear hm
 go_enter Try.func30, Try.ntmps30
 go_wp2_with fail
 go_ret2
 exact ⟨rfl, Below.refl _ _⟩
theorem frame_Put.calls (a0 : ByteArray) (a1 : Int) (A2 : Option Addr) (c2 : Nat) (l2 : List S52) (r1 : ByteArray) (r2 : Int) (w : World) (hr2 : Kd.C k52 w A2 l2.length l2) (_hc2 : l2.length ≤ c2) (h : frame_Put.f a0 a1 l2 = some (r1, r2)) :
  Calls Try.prog 30 #[.string a0, .int .i64 a1, .slice A2 l2.length c2] w fun e w' => e = .returned (.tuple #[.string r1, .int .i64 r2]) ∧ Below w.heap.size w w' := by
 have h := Option.some.inj h
 by_cases hm : a0.size = 4
 ·rw [if_neg (by simpa using hm)] at h
  by_cases hv : a1 < 1 ∨ 255 < a1
  ·rw [if_pos hv] at h
   obtain ⟨rfl, rfl⟩ := Prod.mk.inj h
   exact framePut_version a0 a1 A2 _ c2 w hm hv
  ·rw [if_neg hv] at h
   by_cases hl : 8 < l2.length
   ·rw [if_pos hl] at h
    obtain ⟨rfl, rfl⟩ := Prod.mk.inj h
    exact framePut_more a0 a1 A2 _ c2 w hm (by omega) (by omega) hl
   ·rw [if_neg hl] at h
    obtain ⟨rfl, rfl⟩ := Prod.mk.inj h
    exact framePut_good a0 a1 A2 c2 l2 w hr2 hm (by omega) (by omega) (by omega)
 ·rw [if_pos hm] at h
  obtain ⟨rfl, rfl⟩ := Prod.mk.inj h
  exact framePut_magic a0 a1 A2 _ c2 w hm
end Go.Proofs.Ytdjpelcdijpihaa.PrintF
