/- The contract of the reference's Flip, proved by hand: a mask's bits put to a text's bits by exclusive or. Conditions: the place is a natural number below 2^62, the mask a uint32, the text's length an int. -/
import Derived.Test.YtdjpelcdijpihaaProg
import Derived.WalkKit
import Derived.Laws.BytesArg
import Derived.Laws.BitsLemmas
import Derived.KernelRfl
import Derived.Deep.LoopGhost
import Derived.Lib.Hide
import Derived.Lib.ConvBytes
namespace Go.Proofs.Ytdjpelcdijpihaa.Print
open Go.RowKit
def oneN : Nat → Int
  | 0 => 1
  | j + 1 => oneN j * 2 % 256
def flipAt (xs : List Int) (p : Nat) : List Int := if p / 8 < xs.length then xs.set (p / 8) (bits .xor .u8 (xs.getD (p / 8) 0) (oneN (p % 8))) else xs
def flipN (xs : List Int) (f : Nat) (m : Int) : Nat → List Int
  | 0 => xs
  | k + 1 => if m / 2 ^ k % 2 = 1 then flipAt (flipN xs f m k) (f + k) else flipN xs f m k
theorem flipAt_length (xs : List Int) (p : Nat) : (flipAt xs p).length = xs.length := by
  unfold flipAt
  split <;> simp
theorem flipN_length (xs : List Int) (f : Nat) (m : Int) : ∀ k, (flipN xs f m k).length = xs.length
  | 0 => rfl
  | k + 1 => by
    unfold flipN
    split
    · rw [flipAt_length, flipN_length xs f m k]
    · exact flipN_length xs f m k
def bytesI (s : ByteArray) : List Int := s.data.toList.map fun b => (b.toNat : Int)
/-- The row behind Flip's slice: these bytes, free to be written; all else is as it was. -/
def FlipRel (w wr : World) (xs : List Int) : Prop := Below w.heap.size w wr ∧ w.heap.size < wr.heap.size ∧ ∀ j, j < xs.length → wr.cell? ⟨w.heap.size, j, none⟩ = some (.int .u8 (xs.getD j 0)) ∧ wr.frozen? ⟨w.heap.size, j, none⟩ = false
theorem flipRel_start (w : World) (s : ByteArray) : FlipRel w (Lib.bytesWorld w 5 s) (bytesI s) := by
  have hd : s.data.toList.length = s.size := by rw [Array.length_toList]; rfl
  refine ⟨⟨rfl, rfl, rfl, by rw [Lib.bytesWorld_size]; omega, fun i hi => Lib.bytesWorld_at_old w 5 s i hi⟩, by rw [Lib.bytesWorld_size]; omega, fun j hj => ?_⟩
  have hj' : j < s.size := by simpa [bytesI] using hj
  have hj2 : j < s.data.toList.length := by omega
  refine ⟨?_, ?_⟩
  · rw [Lib.bytesWorld_cell w 5 s j hj']
    simp [bytesI, List.getD_eq_getElem?_getD, List.getElem?_eq_getElem hj2]
  · have hsz : s.size ≤ (Lib.bytesCells w 5 s).size := by
      unfold Lib.bytesCells
      rw [Array.size_append, Array.size_map]
      exact Nat.le_add_right _ _
    simp [World.frozen?, Lib.bytesWorld_at_new]
    omega
theorem flipRel_set {w wr : World} {xs : List Int} (h : FlipRel w wr xs) {i : Nat} (hi : i < xs.length) (v : Int) : FlipRel w (wr.setCell ⟨w.heap.size, i, none⟩ (.int .u8 v)) (xs.set i v) := by
  obtain ⟨hb, hs, hc⟩ := h
  refine ⟨hb.setCell (Nat.le_refl _) _, by simpa using hs, fun j hj => ?_⟩
  have hj' : j < xs.length := by simpa using hj
  refine ⟨?_, by rw [World.frozen?_setCell]; exact (hc j hj').2⟩
  by_cases e : i = j
  · subst e
    rw [World.cell?_setCell_same _ _ _ (hc i hi).1]
    simp [List.getD_eq_getElem?_getD, hi]
  · rw [World.cell?_setCell_other _ _ _ _ (by simp), (hc j hj').1]
    simp [List.getD_eq_getElem?_getD, e]
def dioramaref03_Flip.f (a0 : ByteArray) (a1 a2 : Int) : Option ByteArray := if a0.size ≤ 9223372036854775807 ∧ 0 ≤ a1 ∧ a1 ≤ 4611686018427387904 ∧ 0 ≤ a2 ∧ a2 ≤ 4294967295 then some (strOfNums (flipN (bytesI a0) a1.toNat a2 32)) else none
theorem shr_nat (m n : Nat) : (m : Int) / 2 ^ n = ((m / 2 ^ n : Nat) : Int) := by simp
theorem shr_le (a : Int) (n : Nat) (h0 : 0 ≤ a) (h1 : a ≤ 4294967295) : a / 2 ^ n ≤ 4294967295 := by
  obtain ⟨m, rfl⟩ := Int.eq_ofNat_of_zero_le h0
  rw [shr_nat]
  have := Nat.div_le_self m (2 ^ n)
  omega
theorem shr_succ (a : Int) (n : Nat) (h0 : 0 ≤ a) : a / 2 ^ n / 2 = a / 2 ^ (n + 1) := by
  obtain ⟨m, rfl⟩ := Int.eq_ofNat_of_zero_le h0
  rw [shr_nat, shr_nat, Nat.pow_succ, ← Nat.div_div_eq_div_mul]
  omega
theorem retStr {a b : ByteArray} (h : a = b) : Ending.returned (.string a) = .returned (.string b) := by rw [h]
set_option maxHeartbeats 4000000 in
set_option maxRecDepth 100000 in
theorem dioramaref03_Flip.calls (a0 : ByteArray) (a1 a2 : Int) (r : ByteArray) (w : World) (h : dioramaref03_Flip.f a0 a1 a2 = some r) :
    Calls Try.prog 26 #[.string a0, .int .i64 a1, .int .u32 a2] w fun e w' => e = .returned (.string r) ∧ Below w.heap.size w w' := by
  unfold dioramaref03_Flip.f at h
  split at h
  · rename_i hc
    obtain ⟨hs, h0, h1, hm0, hm1⟩ := hc
    have Hr := Lib.hid (Option.some.inj h)
    clear h
    obtain ⟨f, rfl⟩ := Int.eq_ofNat_of_zero_le h0
    rw [Int.toNat_natCast] at Hr
    have hxl : (bytesI a0).length = a0.size := by simp [bytesI]
    have HS := Lib.hid (flipRel_start w a0)
    have kb := fun W => Lib.run_convert_string_bytes (P := Try.prog) W 9 72 5 a0 Try.underlying9 Try.underlying72 Try.underlying5
    go_enter Try.func26, Try.ntmps26
    go_wp2_with fail
    clear kb
    go_loopw [2, 8] (fun m k wr => ∃ n : Nat, n ≤ 32 ∧ k = .int .i64 n ∧ m = .int .u32 (a2 / 2 ^ n) ∧ FlipRel w wr (flipN (bytesI a0) f a2 n)) (fun _ k _ => 32 - (intOf k).toNat)
    case atStart => exact ⟨0, by omega, rfl, by simp, HS.out⟩
    case round =>
      obtain ⟨n, hn, rfl, rfl, H⟩ := hrel
      have hl : (flipN (bytesI a0) f a2 n).length = a0.size := by rw [flipN_length, hxl]
      by_cases hlt : n < 32
      · have hd : decide ((n : Int) < 32) = true := decide_eq_true (by omega)
        have hq0 : 0 ≤ a2 / 2 ^ n := Int.ediv_nonneg hm0 (by exact Int.le_of_lt (Int.pow_pos (by decide)))
        have hq1 : a2 / 2 ^ n ≤ 4294967295 := shr_le a2 n hm0 hm1
        have hq2 : a2 / 2 ^ n / 2 = a2 / 2 ^ (n + 1) := shr_succ a2 n hm0
        have HN : Hid (flipN (bytesI a0) f a2 (n + 1) = if a2 / 2 ^ n % 2 = 1 then flipAt (flipN (bytesI a0) f a2 n) (f + n) else flipN (bytesI a0) f a2 n) := rfl
        have HQ := Lib.hid hq2
        clear hq2
        generalize a2 / 2 ^ n = q at *
        generalize flipN (bytesI a0) f a2 n = xs at *
        by_cases hb : q % 2 = 1
        · by_cases hin : (f + n) / 8 < a0.size
          · have t1 : (q % 2 == 1) = true := by simpa using hb
            have t2 : decide (((f : Int) + (n : Int)) / 8 < (a0.size : Int)) = true := decide_eq_true (by omega)
            obtain ⟨p, hp⟩ : ∃ p : Nat, p = f + n := ⟨_, rfl⟩
            have hpi : (f : Int) + (n : Int) = (p : Int) := by omega
            have e8 : ((p : Int) / 8).toNat = p / 8 := by omega
            have hc1 := (H.2.2 (p / 8) (by omega)).1
            have hf1 := (H.2.2 (p / 8) (by omega)).2
            have HW := Lib.hid (flipRel_set H (i := p / 8) (by omega) (bits .xor .u8 (xs.getD (p / 8) 0) (oneN (p % 8))))
            have HL := Lib.hid hl
            have HP := Lib.hid hp
            clear hl H hp
            go_wp2_with fail
            go_loop [10, 11] (fun o j => ∃ m : Nat, m ≤ p % 8 ∧ j = .int .i64 m ∧ o = .int .u8 (oneN m)) (fun _ j => p - (intOf j).toNat)
            case atStart => exact ⟨0, by omega, rfl, rfl⟩
            case round =>
              obtain ⟨m, hm, rfl, rfl⟩ := hrel
              by_cases hm8 : m < p % 8
              · have t3 : decide ((m : Int) < (p : Int) % 8) = true := decide_eq_true (by omega)
                have ho : Hid (oneN (m + 1) = oneN m * 2 % 256) := rfl
                generalize oneN m = x at *
                go_wp2_with fail
                go_round
                case rel => exact ⟨m + 1, by omega, by go_num, by rw [ho.out]⟩
                case measure => simp [intOf]; omega
              · obtain rfl : m = p % 8 := by omega
                go_wp2_with fail
                go_roundw
                case rel => exact ⟨n + 1, by omega, by go_num, by rw [HQ.out], by
                  rw [HN.out, if_pos hb, flipAt, if_pos (by rw [HL.out]; exact hin), ← HP.out]
                  have h := HW.out
                  rw [List.getD_eq_getElem?_getD] at h ⊢
                  exact h⟩
                case measure => simp [intOf]; omega
          · have t1 : (q % 2 == 1) = true := by simpa using hb
            have t2 : decide (((f : Int) + (n : Int)) / 8 < (a0.size : Int)) = false := decide_eq_false (by omega)
            have HL := Lib.hid hl
            have HH := Lib.hid H
            clear hl H
            go_wp2_with fail
            go_roundw
            case rel => exact ⟨n + 1, by omega, by go_num, by rw [HQ.out], by rw [HN.out, if_pos hb, flipAt, if_neg (by rw [HL.out]; exact hin)]; exact HH.out⟩
            case measure => simp [intOf]; omega
        · have t1 : (q % 2 == 1) = false := by simpa using hb
          have HH := Lib.hid H
          clear hl H
          go_wp2_with fail
          go_roundw
          case rel => exact ⟨n + 1, by omega, by go_num, by rw [HQ.out], by rw [HN.out, if_neg hb]; exact HH.out⟩
          case measure => simp [intOf]; omega
      · obtain rfl : n = 32 := by omega
        have kc := run_convert_bytes_arg (P := Try.prog) wr 72 5 Try.underlying72 Try.underlying5 w.heap.size 0 a0.size (grownCap w a0.size 0 5) (flipN (bytesI a0) f a2 32) hl (fun i hi => by rw [Nat.zero_add]; exact (H.2.2 i (by omega)).1) 9 Try.underlying9
        have HB := Lib.hid H.1
        clear H
        go_wp2_with fail
        go_ret
        exact ⟨retStr Hr.out, HB.out⟩
  · exact absurd h (by simp)
end Go.Proofs.Ytdjpelcdijpihaa.Print
