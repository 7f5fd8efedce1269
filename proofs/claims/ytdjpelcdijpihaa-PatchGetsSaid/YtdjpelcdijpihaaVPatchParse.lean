/- A part of the proof of the claim: what it uses of the text PatchParse. -/
import Derived.Test.YtdjpelcdijpihaaVHandRefA
import Derived.Test.YtdjpelcdijpihaaVFrameCodec
namespace Go.Proofs.Ytdjpelcdijpihaa.PrintF
open Go.RowKit Go.Proofs.Ytdjpelcdijpihaa.Print Go.Proofs.YtdjpelcdijpihaaW.PrintWords Go.Proofs.YtdjpelcdijpihaaW.PrintLast
set_option linter.unusedVariables false
abbrev PS := List Nat × Option Int
def failP (e : Int) (s : PS) : PS := match s.2 with
 | some _ => s
 | none => (s.1, some e)
def uintP (s : PS) : Int × PS := match s.2 with
 | some _ => (0, s)
 | none => match uintE s.1 with
  | .error e => (0, s.1, some e)
  | .ok (n, q) => ((n : Int), q, none)
def zagN (n : Nat) : Int := if n % 2 = 0 then ((n / 2 : Nat) : Int) else -((n / 2 : Nat) : Int) - 1
def intP (s : PS) : Int × PS := match s.2 with
 | some _ => (0, s)
 | none => match gv 0 0 s.1 with
  | .error e => (0, s.1, some e)
  | .ok (n, q) => (zagN n, q, none)
def textP (s : PS) : ByteArray × PS := match s.2 with
 | some _ => (⟨#[]⟩, s)
 | none => match uintE s.1 with
  | .error e => (⟨#[]⟩, s.1, some e)
  | .ok (n, q) => if q.length < n then (⟨#[]⟩, s.1, some 2) else (mkB (q.take n), q.drop n, none)
def setP (s : PS) : S127 × PS :=
 let t := uintP s
 let f := uintP (if 1 < t.1 then failP 21 t.2 else t.2)
 if t.1 = 1 then (⟨true, f.1, 0, (textP f.2).1⟩, (textP f.2).2) else (⟨false, f.1, (intP f.2).1, ⟨#[]⟩⟩, (intP f.2).2)
def editP (s : PS) : S138 × PS :=
 let k := uintP s
 let n := uintP (if k.1 < 1 ∨ 3 < k.1 then failP 21 k.2 else k.2)
 (⟨k.1, n.1⟩, n.2)
def iterP {α : Type} (step : PS → α × PS) : Nat → PS → List α × PS
 | 0, s => ([], s)
 | n + 1, s => match s.2 with
  | some _ => ([], s)
  | none => let r := step s
   let q := iterP step n r.2
   (r.1 :: q.1, q.2)
def countP {α : Type} (step : PS → α × PS) (s : PS) : List α × PS := iterP step (uintP s).1.toNat (uintP s).2
def zero105 : S105 := ⟨0, [], [], []⟩
def nodeP (s : PS) : S105 × PS :=
 let k := uintP s
 let a := countP intP k.2
 let b := countP textP a.2
 let c := countP uintP b.2
 (⟨k.1, a.1, b.1, c.1⟩, c.2)
def opP (s : PS) : S107 × PS :=
 let k := uintP s
 if k.1 = 1 then (⟨k.1, (uintP k.2).1, [], [], zero105⟩, (uintP k.2).2)
 else if k.1 = 2 then
  let b := uintP k.2
  let c := countP setP b.2
  let d := countP editP c.2
  (⟨k.1, b.1, c.1, d.1, zero105⟩, d.2)
 else if k.1 = 3 then (⟨k.1, 0, [], [], (nodeP k.2).1⟩, (nodeP k.2).2)
 else (⟨k.1, 0, [], [], zero105⟩, failP 21 k.2)
theorem failP_err (e : Int) (s : PS) : (failP e s).2.isSome = true := by unfold failP; split <;> simp_all
theorem uintP_err {s : PS} (h : (uintP s).2.2 = none) : s.2 = none := by
 unfold uintP at h
 split at h
 ·rename_i e he; rw [he] at h; cases h
 ·assumption
theorem intP_err {s : PS} (h : (intP s).2.2 = none) : s.2 = none := by
 unfold intP at h
 split at h
 ·rename_i e he; rw [he] at h; cases h
 ·assumption
theorem textP_err {s : PS} (h : (textP s).2.2 = none) : s.2 = none := by
 unfold textP at h
 split at h
 ·rename_i e he; rw [he] at h; cases h
 ·assumption
theorem failP_ite {c : Prop} [Decidable c] {e : Int} {s : PS} (h : (if c then failP e s else s).2 = none) : ¬ c ∧ s.2 = none := by
 by_cases hc : c
 ·rw [if_pos hc] at h
  have := failP_err e s
  rw [h] at this
  cases this
 ·rw [if_neg hc] at h
  exact ⟨hc, h⟩
theorem iterP_some {α : Type} (step : PS → α × PS) (n : Nat) (s : PS) (e : Int) (h : s.2 = some e) : iterP step n s = ([], s) := by
 cases n with
 | zero => rfl
 | succ n => simp only [iterP, h]
def numN (n : Int) : List Nat := vb (n % 18446744073709551616).toNat
theorem toN_numB (n : Int) : toN (numB n) = numN n := toN_u8s (vb_lt _)
theorem noB_range {n : Int} (h : noB n = false) : 0 ≤ n ∧ n ≤ 16777216 := by
 have := of_decide_eq_false h
 omega
theorem noB_of {n : Int} (h : 0 ≤ n ∧ n ≤ 16777216) : noB n = false := decide_eq_false (by omega)
theorem toN_data (s : ByteArray) : toN s.data.toList = bs s := rfl
def Gets {α : Type} (step : PS → α × PS) (B : α → List UInt8) (ok : α → Prop) : Prop := ∀ (s : PS) (x : α) (q : List Nat), (∀ c ∈ s.1, c < 256) → step s = (x, q, none) → s.2 = none ∧ s.1 = toN (B x) ++ q ∧ ok x
theorem app_lt {a b l : List Nat} (h : l = a ++ b) (hl : ∀ c ∈ l, c < 256) : ∀ c ∈ b, c < 256 := fun c hc => hl c (by rw [h]; simp [hc])
theorem uintE_got {l : List Nat} {n : Nat} {q : List Nat} (hl : ∀ c ∈ l, c < 256) (h : uintE l = .ok (n, q)) : l = toN (numB n) ++ q ∧ noB n = false := by
 unfold uintE at h
 split at h
 ·cases h
 ·split at h
  ·cases h
  ·rename_i hg hn
   cases h
   refine ⟨?_, noB_of (by omega)⟩
   rw [toN_numB, numN, show ((n : Int) % 18446744073709551616).toNat = n by omega]
   exact gv_got hl hg
theorem uintP_got : Gets uintP numB (fun n => noB n = false) := by
 intro s x q hl h
 obtain ⟨l, e⟩ := s
 unfold uintP at h
 split at h
 ·rename_i e' he
  have := congrArg (fun z => z.2.2) h
  simp only at this he
  rw [he] at this; cases this
 ·rename_i he
  split at h
  ·cases h
  ·rename_i n q' hu
   cases h
   exact ⟨he, uintE_got hl hu⟩
theorem gv_big : ∀ (j i n : Nat) (l : List Nat) (m : Nat) (q : List Nat), i + j = 9 → n < 128 ^ i → gv i n l = .ok (m, q) → m < 18446744073709551616 := by
 intro j
 induction j with
 | zero =>
  intro i n l m q hij hn h
  obtain rfl : i = 9 := by omega
  have e : (128 : Nat) ^ 9 = 9223372036854775808 := by decide
  cases l with
  | nil => simp [gv] at h
  | cons c r =>
   rw [gv] at h
   split at h
   ·cases h
   ·rename_i hc
    have hc1 : c ≤ 1 := by omega
    rw [if_pos (by omega)] at h
    cases h
    have := Nat.mul_le_mul_right (128 ^ 9) hc1
    omega
 | succ j ih =>
  intro i n l m q hij hn h
  cases l with
  | nil => simp [gv] at h
  | cons c r =>
   rw [gv] at h
   split at h
   ·cases h
   ·have h8 : 128 ^ (i + 1) ≤ 128 ^ 9 := Nat.pow_le_pow_right (by decide) (by omega)
    have e : (128 : Nat) ^ 9 = 9223372036854775808 := by decide
    have hm := Nat.mul_le_mul_right (128 ^ i) (show c % 128 ≤ 127 by omega)
    rw [Nat.pow_succ] at h8
    split at h
    ·rename_i h1
     cases h
     rw [Nat.mod_eq_of_lt h1] at hm
     omega
    ·exact ih (i + 1) _ r m q (by omega) (by rw [Nat.pow_succ]; omega) h
theorem zig_zagN {n : Nat} (h : n < 18446744073709551616) : (-9223372036854775808 ≤ zagN n ∧ zagN n ≤ 9223372036854775807) ∧ zigN (zagN n) = n := by
 have hr : -9223372036854775808 ≤ zagN n ∧ zagN n ≤ 9223372036854775807 := by unfold zagN; split <;> omega
 refine ⟨hr, ?_⟩
 rw [zig_nat _ hr]
 unfold zagN
 split <;> split <;> omega
theorem intP_got : Gets intP sgnB (fun n => -9223372036854775808 ≤ n ∧ n ≤ 9223372036854775807) := by
 intro s x q hl h
 obtain ⟨l, e⟩ := s
 unfold intP at h
 split at h
 ·rename_i e' he
  have := congrArg (fun z => z.2.2) h
  simp only at this he
  rw [he] at this; cases this
 ·rename_i he
  split at h
  ·cases h
  ·rename_i n q' hu
   cases h
   have hb := gv_big 9 0 0 _ _ _ rfl (by simp) hu
   obtain ⟨h1, h2⟩ := zig_zagN hb
   refine ⟨he, ?_, h1⟩
   simp only [sgnB, toN_numB, numN]
   rw [h2, show ((n : Int) % 18446744073709551616).toNat = n by omega]
   exact gv_got hl hu
theorem textP_got : Gets textP txtB (fun s => noB s.size = false) := by
 intro s x q hl h
 obtain ⟨l, e⟩ := s
 unfold textP at h
 split at h
 ·rename_i e' he
  have := congrArg (fun z => z.2.2) h
  simp only at this he
  rw [he] at this; cases this
 ·rename_i he
  split at h
  ·cases h
  ·rename_i n q' hu
   split at h
   ·cases h
   ·rename_i hn
    obtain ⟨h1, h2⟩ := uintE_got hl hu
    cases h
    have hsz : (mkB (q'.take n)).size = n := by rw [mkB_size, List.length_take]; omega
    have hq : ∀ c ∈ q', c < 256 := app_lt h1 hl
    refine ⟨he, ?_, by show noB ((mkB (q'.take n)).size : Int) = false; rw [hsz]; exact h2⟩
    simp only [txtB, toN_append, toN_data, List.append_assoc]
    rw [bs_mkB (take_lt hq n), hsz, List.take_append_drop]
    exact h1
theorem gets1 {α : Type} {step : PS → α × PS} {B : α → List UInt8} {ok : α → Prop} (hg : Gets step B ok) (s : PS) (hl : ∀ c ∈ s.1, c < 256) (hn : (step s).2.2 = none) :
  s.2 = none ∧ s.1 = toN (B (step s).1) ++ (step s).2.1 ∧ ok (step s).1 ∧ ∀ c ∈ (step s).2.1, c < 256 := by
 obtain ⟨h1, h2, h3⟩ := hg s (step s).1 (step s).2.1 hl (by rw [← hn])
 exact ⟨h1, h2, h3, app_lt h2 hl⟩
theorem pairs {α : Type} {a : α} {s : PS} {x : α} {q : List Nat} (h : (a, s) = (x, q, none)) : a = x ∧ s.1 = q ∧ s.2 = none := by cases h; exact ⟨rfl, rfl, rfl⟩
theorem setP_got : Gets setP setB (fun s => setNo s = false ∧ -9223372036854775808 ≤ s.f2 ∧ s.f2 ≤ 9223372036854775807) := by
 intro s x q hl h
 unfold setP at h
 dsimp only at h
 by_cases ht : (uintP s).1 = 1
 ·rw [if_pos ht] at h
  obtain ⟨rfl, rfl, hn⟩ := pairs h
  rw [if_neg (show ¬ 1 < (uintP s).1 by omega)] at hn ⊢
  obtain ⟨e2, e1⟩ : (uintP (uintP s).2).2.2 = none ∧ (uintP s).2.2 = none := ⟨textP_err hn, uintP_err (textP_err hn)⟩
  obtain ⟨a1, a2, a3, a4⟩ := gets1 uintP_got s hl e1
  obtain ⟨b1, b2, b3, b4⟩ := gets1 uintP_got _ a4 e2
  obtain ⟨c1, c2, c3, c4⟩ := gets1 textP_got _ b4 hn
  refine ⟨a1, ?_, ?_, (by decide : (-9223372036854775808 : Int) ≤ 0), (by decide : (0 : Int) ≤ 9223372036854775807)⟩
  ·rw [a2, b2, c2]
   simp only [setB, if_pos, toN_append, List.append_assoc]
   rw [ht]
  ·simp only [setNo, if_pos]
   rw [b3, c3]
   rfl
 ·rw [if_neg ht] at h
  obtain ⟨rfl, rfl, hn⟩ := pairs h
  obtain ⟨hlt, e1⟩ := failP_ite (uintP_err (intP_err hn))
  rw [if_neg hlt] at hn ⊢
  have e2 : (uintP (uintP s).2).2.2 = none := intP_err hn
  obtain ⟨a1, a2, a3, a4⟩ := gets1 uintP_got s hl e1
  obtain ⟨b1, b2, b3, b4⟩ := gets1 uintP_got _ a4 e2
  obtain ⟨c1, c2, c3, c4⟩ := gets1 intP_got _ b4 hn
  have hr := noB_range a3
  have h0 : (uintP s).1 = 0 := by omega
  refine ⟨a1, ?_, ?_, c3⟩
  ·rw [a2, b2, c2]
   simp only [setB, Bool.false_eq_true, if_false, toN_append, List.append_assoc]
   rw [h0]
  ·simp only [setNo, Bool.false_eq_true, if_false]
   rw [b3, ByteArray.toList_eq]
   rfl
theorem editP_got : Gets editP editB (fun e => editNo e = false) := by
 intro s x q hl h
 unfold editP at h
 dsimp only at h
 obtain ⟨rfl, rfl, hn⟩ := pairs h
 obtain ⟨hlt, e1⟩ := failP_ite (uintP_err hn)
 rw [if_neg hlt] at hn ⊢
 obtain ⟨a1, a2, a3, a4⟩ := gets1 uintP_got s hl e1
 obtain ⟨b1, b2, b3, b4⟩ := gets1 uintP_got _ a4 hn
 refine ⟨a1, ?_, ?_⟩
 ·rw [a2, b2]
  simp only [editB, toN_append, List.append_assoc]
 ·simp only [editNo]
  rw [a3, b3, decide_eq_false (by omega), decide_eq_false (by omega)]
  rfl
end Go.Proofs.Ytdjpelcdijpihaa.PrintF
