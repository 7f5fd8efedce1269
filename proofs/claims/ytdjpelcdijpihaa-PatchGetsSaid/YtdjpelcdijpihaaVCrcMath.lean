/- A part of the proof of the claim: what it uses of the texts PrintC (printed by xprint.py), CrcMath. -/
import Derived.Test.YtdjpelcdijpihaaVPrintC0
import Derived.Test.YtdjpelcdijpihaaVPrintC1
namespace Go.Proofs.Ytdjpelcdijpihaa.Print
open Go.RowKit Go.Proofs.YtdjpelcdijpihaaW.PrintWords Go.Proofs.YtdjpelcdijpihaaW.PrintLast Go.Proofs.YtdjpelcdijpihaaW.PrintMore
attribute [local go_sem] max2_int min2_int max_two min_two
set_option linter.unusedVariables false
set_option linter.unusedSimpArgs false
end Go.Proofs.Ytdjpelcdijpihaa.Print
namespace Go.Proofs.CrcMath
def st (x : Nat) : Nat := if x % 2 = 1 then x / 2 ^^^ 3988292384 else x / 2
def stn : Nat → Nat → Nat
 | 0, x => x
 | k + 1, x => st (stn k x)
theorem st_lt {x : Nat} (h : x < 4294967296) : st x < 4294967296 := by
 unfold st
 split
 ·exact Nat.xor_lt_two_pow (n := 32) (by omega) (by omega)
 ·omega
theorem stn_lt {x : Nat} (h : x < 4294967296) : ∀ k, stn k x < 4294967296
 | 0 => h
 | k + 1 => st_lt (stn_lt h k)
theorem stn_add (a b x : Nat) : stn (a + b) x = stn a (stn b x) := by
 induction a with
 | zero => simp [stn]
 | succ a ih => rw [Nat.succ_add]; simp [stn, ih]
theorem xor_mod (x y : Nat) : (x ^^^ y) % 2 = (x + y) % 2 := by
 have hx := Nat.testBit_zero x
 have hy := Nat.testBit_zero y
 have hz := Nat.testBit_zero (x ^^^ y)
 rw [Nat.testBit_xor, hx, hy] at hz
 rcases Nat.mod_two_eq_zero_or_one x with h1 | h1 <;> rcases Nat.mod_two_eq_zero_or_one y with h2 | h2 <;> rcases Nat.mod_two_eq_zero_or_one (x ^^^ y) with h3 | h3 <;> simp [h1, h2, h3] at hz <;> omega
theorem xor_div (x y : Nat) : (x ^^^ y) / 2 = x / 2 ^^^ y / 2 := by
 apply Nat.eq_of_testBit_eq
 intro i
 simp [Nat.testBit_xor, Nat.testBit_div_two]
theorem st_xor (x y : Nat) : st (x ^^^ y) = st x ^^^ st y := by
 unfold st
 rw [xor_div]
 have h := xor_mod x y
 rcases Nat.mod_two_eq_zero_or_one x with h1 | h1 <;> rcases Nat.mod_two_eq_zero_or_one y with h2 | h2
 ·rw [if_neg (by omega), if_neg (by omega), if_neg (by omega)]
 ·rw [if_pos (by omega), if_neg (by omega), if_pos (by omega), Nat.xor_assoc]
 ·rw [if_pos (by omega), if_pos (by omega), if_neg (by omega)]
  rw [Nat.xor_assoc, Nat.xor_comm (y / 2), ← Nat.xor_assoc]
 ·rw [if_neg (by omega), if_pos (by omega), if_pos (by omega)]
  rw [Nat.xor_assoc, Nat.xor_comm 3988292384, Nat.xor_assoc, Nat.xor_self, Nat.xor_zero]
theorem stn_xor (x y : Nat) : ∀ k, stn k (x ^^^ y) = stn k x ^^^ stn k y
 | 0 => rfl
 | k + 1 => by simp only [stn, stn_xor x y k, st_xor]
theorem st_even (x : Nat) : st (2 * x) = x := by
 unfold st
 rw [if_neg (by omega)]
 omega
theorem stn_shift (x : Nat) : ∀ k, stn k (2 ^ k * x) = x
 | 0 => by simp [stn]
 | k + 1 => by
  rw [show k + 1 = k + 1 from rfl, stn_add k 1]
  show stn k (st (2 ^ (k + 1) * x)) = x
  rw [Nat.pow_succ, Nat.mul_comm (2 ^ k) 2, Nat.mul_assoc, st_even, stn_shift x k]
def put (x c : Nat) : Nat := stn 8 (x ^^^ c)
def reg (x : Nat) (l : List Nat) : Nat := l.foldl put x
theorem reg_nil (x : Nat) : reg x [] = x := rfl
theorem reg_cons (x c : Nat) (l : List Nat) : reg x (c :: l) = reg (put x c) l := by simp only [reg, List.foldl_cons]
theorem xor_lt32 {x y : Nat} (hx : x < 4294967296) (hy : y < 4294967296) : x ^^^ y < 4294967296 := by
 have := Nat.xor_lt_two_pow (n := 32) (x := x) (y := y) (by omega) (by omega)
 omega
theorem put_lt {x c : Nat} (hx : x < 4294967296) (hc : c < 256) : put x c < 4294967296 := by
 unfold put
 exact stn_lt (xor_lt32 hx (by omega)) 8
theorem reg_lt : ∀ (l : List Nat) {x : Nat}, x < 4294967296 → (∀ c ∈ l, c < 256) → reg x l < 4294967296
 | [], _, hx, _ => hx
 | c :: l, _, hx, h => reg_lt l (put_lt hx (h c (by simp))) (fun d hd => h d (by simp [hd]))
theorem put_table (x c : Nat) : put x c = x / 256 ^^^ stn 8 (x % 256 ^^^ c) := by
 have e : x ^^^ c = 2 ^ 8 * (x / 256) ^^^ (x % 256 ^^^ c) := by
  rw [← Nat.xor_assoc]
  congr 1
  have h2 : x % 256 < 2 ^ 8 := Nat.mod_lt _ (by decide)
  have h3 : 2 ^ 8 * (x / 256) + x % 256 = x := Nat.div_add_mod x 256
  apply Nat.eq_of_testBit_eq
  intro i
  rw [Nat.testBit_xor]
  conv => lhs; rw [← h3]
  rw [Nat.testBit_two_pow_mul_add _ h2]
  by_cases hi : i < 8
  ·rw [if_pos hi, Nat.testBit_two_pow_mul]
   simp [show ¬ i ≥ 8 by omega]
  ·rw [if_neg hi, Nat.testBit_two_pow_mul, Nat.testBit_lt_two_pow (x := x % 256) (i := i) (Nat.lt_of_lt_of_le h2 (Nat.pow_le_pow_right (by decide) (by omega)))]
   simp [show i ≥ 8 by omega]
 unfold put
 rw [e, stn_xor, stn_shift]
end Go.Proofs.CrcMath
