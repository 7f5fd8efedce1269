/- A part of the proof of the claim: what it uses of the text PatchParse. -/
import Derived.Test.YtdjpelcdijpihaaYHandRefA
import Derived.Test.YtdjpelcdijpihaaYFrameCodec
namespace Go.Proofs.Ytdjpelcdijpihaa.PrintF
open Go.RowKit Go.Proofs.Ytdjpelcdijpihaa.Print Go.Proofs.YtdjpelcdijpihaaW.PrintWords Go.Proofs.YtdjpelcdijpihaaW.PrintLast
set_option linter.unusedVariables false
abbrev PS := List Nat × Option Int
def failP (e : Int) (s : PS) : PS := match s.2 with
 | some _ => s
 | none => (s.1, some e)
def uintP (s : PS) : Int × PS := match s.2 with
 | some _ => (0, s)
 | none => match uintE s.1 with
  | .error e => (0, s.1, some e)
  | .ok (n, q) => ((n : Int), q, none)
def zagN (n : Nat) : Int := if n % 2 = 0 then ((n / 2 : Nat) : Int) else -((n / 2 : Nat) : Int) - 1
def intP (s : PS) : Int × PS := match s.2 with
 | some _ => (0, s)
 | none => match gv 0 0 s.1 with
  | .error e => (0, s.1, some e)
  | .ok (n, q) => (zagN n, q, none)
def textP (s : PS) : ByteArray × PS := match s.2 with
 | some _ => (⟨#[]⟩, s)
 | none => match uintE s.1 with
  | .error e => (⟨#[]⟩, s.1, some e)
  | .ok (n, q) => if q.length < n then (⟨#[]⟩, s.1, some 2) else (mkB (q.take n), q.drop n, none)
def setP (s : PS) : S127 × PS :=
 let t := uintP s
 let f := uintP (if 1 < t.1 then failP 21 t.2 else t.2)
 if t.1 = 1 then (⟨true, f.1, 0, (textP f.2).1⟩, (textP f.2).2) else (⟨false, f.1, (intP f.2).1, ⟨#[]⟩⟩, (intP f.2).2)
def editP (s : PS) : S138 × PS :=
 let k := uintP s
 let n := uintP (if k.1 < 1 ∨ 3 < k.1 then failP 21 k.2 else k.2)
 (⟨k.1, n.1⟩, n.2)
def iterP {α : Type} (step : PS → α × PS) : Nat → PS → List α × PS
 | 0, s => ([], s)
 | n + 1, s => match s.2 with
  | some _ => ([], s)
  | none => let r := step s
   let q := iterP step n r.2
   (r.1 :: q.1, q.2)
def countP {α : Type} (step : PS → α × PS) (s : PS) : List α × PS := iterP step (uintP s).1.toNat (uintP s).2
def zero105 : S105 := ⟨0, [], [], []⟩
def nodeP (s : PS) : S105 × PS :=
 let k := uintP s
 let a := countP intP k.2
 let b := countP textP a.2
 let c := countP uintP b.2
 (⟨k.1, a.1, b.1, c.1⟩, c.2)
def opP (s : PS) : S107 × PS :=
 let k := uintP s
 if k.1 = 1 then (⟨k.1, (uintP k.2).1, [], [], zero105⟩, (uintP k.2).2)
 else if k.1 = 2 then
  let b := uintP k.2
  let c := countP setP b.2
  let d := countP editP c.2
  (⟨k.1, b.1, c.1, d.1, zero105⟩, d.2)
 else if k.1 = 3 then (⟨k.1, 0, [], [], (nodeP k.2).1⟩, (nodeP k.2).2)
 else (⟨k.1, 0, [], [], zero105⟩, failP 21 k.2)
theorem iterP_some {α : Type} (step : PS → α × PS) (n : Nat) (s : PS) (e : Int) (h : s.2 = some e) : iterP step n s = ([], s) := by
 cases n with
 | zero => rfl
 | succ n => simp only [iterP, h]
def numN (n : Int) : List Nat := vb (n % 18446744073709551616).toNat
theorem toN_numB (n : Int) : toN (numB n) = numN n := toN_u8s (vb_lt _)
theorem noB_range {n : Int} (h : noB n = false) : 0 ≤ n ∧ n ≤ 16777216 := by
 have := of_decide_eq_false h
 omega
def Puts {α : Type} (step : PS → α × PS) (B : α → List UInt8) (x : α) : Prop := ∀ q, step (toN (B x) ++ q, none) = (x, q, none)
theorem uintE_put {n : Int} (h : noB n = false) (q : List Nat) : uintE (toN (numB n) ++ q) = .ok (n.toNat, q) := by
 have := noB_range h
 unfold uintE
 rw [toN_numB, numN, gv_put _ _ (by omega)]
 simp only
 rw [if_neg (by omega), show (n % 18446744073709551616).toNat = n.toNat by omega]
theorem uintP_put {n : Int} (h : noB n = false) : Puts uintP numB n := by
 intro q
 have := noB_range h
 simp only [uintP, uintE_put h]
 rw [show ((n.toNat : Nat) : Int) = n by omega]
theorem zagN_zig {n : Int} (h : -9223372036854775808 ≤ n ∧ n ≤ 9223372036854775807) : zagN (zigN n).toNat = n := by
 rw [zig_nat n h]
 unfold zagN
 split <;> split <;> omega
theorem intP_put {n : Int} (h : -9223372036854775808 ≤ n ∧ n ≤ 9223372036854775807) : Puts intP sgnB n := by
 intro q
 have hz := zig_range n
 simp only [intP, sgnB, toN_numB, numN]
 rw [gv_put _ _ (by omega), show ((zigN n) % 18446744073709551616).toNat = (zigN n).toNat by omega]
 simp only
 rw [zagN_zig h]
theorem toN_data (s : ByteArray) : toN s.data.toList = bs s := rfl
theorem textP_put {s : ByteArray} (h : noB s.size = false) : Puts textP txtB s := by
 intro q
 have hr := noB_range h
 have hl : (bs s).length = s.size := bs_length s
 simp only [textP, txtB, toN_append, toN_data, List.append_assoc, uintE_put h]
 rw [if_neg (by rw [List.length_append, hl]; omega), show ((s.size : Int)).toNat = (bs s).length by rw [hl]; omega, List.take_left, List.drop_left, mkB_bs]
theorem iterP_put {α : Type} {step : PS → α × PS} {B : α → List UInt8} : ∀ (l : List α), (∀ x ∈ l, Puts step B x) → ∀ q, iterP step l.length (toN (l.flatMap B) ++ q, none) = (l, q, none)
 | [], _, q => by simp [iterP, toN]
 | x :: l, h, q => by
  simp only [List.length_cons, iterP, List.flatMap_cons, toN_append, List.append_assoc]
  rw [h x (by simp), iterP_put l (fun y hy => h y (by simp [hy])) q]
theorem countP_put {α : Type} {step : PS → α × PS} {B : α → List UInt8} {l : List α} (hn : noB l.length = false) (h : ∀ x ∈ l, Puts step B x) (q : List Nat) : countP step (toN (numB l.length) ++ (toN (l.flatMap B) ++ q), none) = (l, q, none) := by
 unfold countP
 rw [uintP_put hn]
 exact iterP_put l h q
theorem or_false_l {a b : Bool} (h : (a || b) = false) : a = false ∧ b = false := by cases a <;> cases b <;> simp_all
theorem any_no {α : Type} {f : α → Bool} {l : List α} (h : l.any f = false) : ∀ x ∈ l, f x = false := by
 intro x hx
 cases hf : f x with
 | false => rfl
 | true => rw [List.any_eq_true.2 ⟨x, hx, hf⟩] at h; cases h
theorem str_nil {s : ByteArray} (h : (!s.toList.isEmpty) = false) : s = ⟨#[]⟩ := by
 apply ByteArray.ext
 apply Array.ext'
 rw [ByteArray.toList_eq] at h
 simpa using h
theorem setP_put {s : S127} (h : setNo s = false) (hr : -9223372036854775808 ≤ s.f2 ∧ s.f2 ≤ 9223372036854775807) : Puts setP setB s := by
 intro q
 obtain ⟨t, f, n, x⟩ := s
 unfold setNo at h
 cases t with
 | true =>
  dsimp only at h hr
  rw [if_pos rfl] at h
  obtain ⟨h1, h⟩ := or_false_l h
  obtain ⟨h2, h3⟩ := or_false_l h
  have h0 : n = 0 := by simpa using h1
  simp only [setP, setB, if_pos, toN_append, List.append_assoc]
  rw [uintP_put noB1]
  simp only
  rw [if_pos trivial, if_neg (show ¬ (1 : Int) < 1 by decide), uintP_put h2]
  simp only
  rw [textP_put h3, h0]
 | false =>
  dsimp only at h hr
  rw [if_neg Bool.false_ne_true] at h
  obtain ⟨h1, h2⟩ := or_false_l h
  simp only [setP, setB, Bool.false_eq_true, if_false, toN_append, List.append_assoc]
  rw [uintP_put noB0]
  simp only
  rw [if_neg (show ¬ (0 : Int) = 1 by decide), if_neg (show ¬ (1 : Int) < 0 by decide), uintP_put h2]
  simp only
  rw [intP_put hr, str_nil h1]
theorem editP_put {e : S138} (h : editNo e = false) : Puts editP editB e := by
 intro q
 unfold editNo at h
 obtain ⟨h1, h⟩ := or_false_l h
 obtain ⟨h2, h⟩ := or_false_l h
 obtain ⟨h3, h4⟩ := or_false_l h
 have := of_decide_eq_false h1
 have := of_decide_eq_false h2
 simp only [editP, editB, toN_append, List.append_assoc]
 rw [uintP_put h3]
 simp only
 rw [if_neg (by omega), uintP_put h4]
theorem nodeP_put {x : S105} (h : nodeNo x = false) (hr : ∀ v ∈ x.f1, -9223372036854775808 ≤ v ∧ v ≤ 9223372036854775807) : Puts nodeP nodeB x := by
 intro q
 unfold nodeNo at h
 obtain ⟨h0, h⟩ := or_false_l h
 obtain ⟨h1, h⟩ := or_false_l h
 obtain ⟨h2, h⟩ := or_false_l h
 obtain ⟨h2a, h⟩ := or_false_l h
 obtain ⟨h3, h3a⟩ := or_false_l h
 simp only [nodeP, nodeB, toN_append, List.append_assoc]
 rw [uintP_put h0]
 simp only
 rw [countP_put h1 (fun v hv => intP_put (hr v hv))]
 simp only
 rw [countP_put h2 (fun v hv => textP_put (any_no h2a v hv))]
 simp only
 rw [countP_put h3 (fun v hv => uintP_put (any_no h3a v hv))]
theorem bel_zero {k b : Int} {s : List S127} {e : List S138} {x : S105} : bel ⟨k, b, s, e, x⟩ = true → (k = 1 ∧ s = [] ∧ e = [] ∧ x = zero105) ∨ (k = 2 ∧ x = zero105) ∨ (k = 3 ∧ b = 0 ∧ s = [] ∧ e = []) := by
 have he : ∀ y : S105, patch_empty.f y.f0 y.f1 y.f2 y.f3 = some true → y = zero105 := by
  intro y hy
  obtain ⟨a, b, c, d⟩ := y
  unfold patch_empty.f at hy
  dsimp only at hy
  split at hy
  ·split at hy
   ·split at hy
    ·rename_i h0 h1 h2
     have h3 : ((d.length : Int) = 0) := by simpa using hy
     rw [h0, List.eq_nil_of_length_eq_zero (l := b) (by omega), List.eq_nil_of_length_eq_zero (l := c) (by omega), List.eq_nil_of_length_eq_zero (l := d) (by omega)]
     rfl
    ·cases hy
   ·cases hy
  ·cases hy
 intro h
 have hb := bel_eq ⟨k, b, s, e, x⟩
 rw [h] at hb
 unfold patch_belongs.f at hb
 dsimp only at hb
 have bind1 : ∀ {o : Option Bool} {g : Bool → Option Bool}, (o.bind g) = some true → ∃ r, o = some r ∧ g r = some true := fun h => by
  obtain ⟨r, h1, h2⟩ := Option.bind_eq_some_iff.1 h
  exact ⟨r, h1, h2⟩
 by_cases h1 : k = 1
 ·rw [if_pos h1] at hb
  split at hb
  ·split at hb
   ·rename_i hs he2
    obtain ⟨r, hr, hr2⟩ := bind1 hb
    cases hr2
    exact .inl ⟨h1, List.eq_nil_of_length_eq_zero (by omega), List.eq_nil_of_length_eq_zero (by omega), he x hr⟩
   ·cases hb
  ·cases hb
 ·rw [if_neg h1] at hb
  by_cases h2 : k = 2
  ·rw [if_pos h2] at hb
   obtain ⟨r, hr, hr2⟩ := bind1 hb
   cases hr2
   exact .inr (.inl ⟨h2, he x hr⟩)
  ·rw [if_neg h2] at hb
   by_cases h3 : k = 3
   ·rw [if_pos h3] at hb
    split at hb
    ·split at hb
     ·rename_i hb0 hs
      have : ((e.length : Int) = 0) := by simpa using hb
      exact .inr (.inr ⟨h3, hb0, List.eq_nil_of_length_eq_zero (by omega), List.eq_nil_of_length_eq_zero (by omega)⟩)
     ·cases hb
    ·cases hb
   ·rw [if_neg h3] at hb
    cases hb
def okNums (o : S107) : Prop := (∀ s ∈ o.f2, -9223372036854775808 ≤ s.f2 ∧ s.f2 ≤ 9223372036854775807) ∧ ∀ v ∈ o.f4.f1, -9223372036854775808 ≤ v ∧ v ≤ 9223372036854775807
theorem opP_put {o : S107} (h : opNo o = false) (hr : okNums o) : Puts opP opB o := by
 intro q
 obtain ⟨k, b, s, e, x⟩ := o
 unfold opNo at h
 obtain ⟨hb, h⟩ := or_false_l h
 dsimp only at h hr
 obtain ⟨hk, h⟩ := or_false_l h
 have hb := bel_zero (by simpa using hb)
 unfold okNums at hr
 dsimp only at hr
 simp only [opP, opB, toN_append, List.append_assoc]
 rw [uintP_put hk]
 simp only
 rcases hb with ⟨h1, rfl, rfl, rfl⟩ | ⟨h1, rfl⟩ | ⟨h1, rfl, rfl, rfl⟩
 ·subst h1
  rw [if_neg (by decide)] at h
  obtain ⟨h2, _⟩ := or_false_l h
  rw [if_pos rfl, if_neg (by decide), if_neg (by decide), List.append_nil, uintP_put h2]
 ·subst h1
  rw [if_neg (by decide)] at h
  obtain ⟨h2, h⟩ := or_false_l h
  rw [if_pos rfl] at h
  unfold editsNo at h
  obtain ⟨h3, h⟩ := or_false_l h
  obtain ⟨h4, h⟩ := or_false_l h
  obtain ⟨h5, h6⟩ := or_false_l h
  rw [if_neg (by decide), if_pos rfl, if_neg (by decide), if_pos rfl, editsB]
  simp only [toN_append, List.append_assoc]
  rw [uintP_put h2]
  simp only
  rw [countP_put h3 (fun v hv => setP_put (any_no h4 v hv) (hr.1 v hv))]
  simp only
  rw [countP_put h5 (fun v hv => editP_put (any_no h6 v hv))]
 ·subst h1
  rw [if_pos rfl] at h
  rw [if_neg (by decide), if_neg (by decide), if_pos rfl, if_pos rfl, nodeP_put h hr.2]
theorem gv_big : ∀ (j i n : Nat) (l : List Nat) (m : Nat) (q : List Nat), i + j = 9 → n < 128 ^ i → gv i n l = .ok (m, q) → m < 18446744073709551616 := by
 intro j
 induction j with
 | zero =>
  intro i n l m q hij hn h
  obtain rfl : i = 9 := by omega
  have e : (128 : Nat) ^ 9 = 9223372036854775808 := by decide
  cases l with
  | nil => simp [gv] at h
  | cons c r =>
   rw [gv] at h
   split at h
   ·cases h
   ·rename_i hc
    have hc1 : c ≤ 1 := by omega
    rw [if_pos (by omega)] at h
    cases h
    have := Nat.mul_le_mul_right (128 ^ 9) hc1
    omega
 | succ j ih =>
  intro i n l m q hij hn h
  cases l with
  | nil => simp [gv] at h
  | cons c r =>
   rw [gv] at h
   split at h
   ·cases h
   ·have h8 : 128 ^ (i + 1) ≤ 128 ^ 9 := Nat.pow_le_pow_right (by decide) (by omega)
    have e : (128 : Nat) ^ 9 = 9223372036854775808 := by decide
    have hm := Nat.mul_le_mul_right (128 ^ i) (show c % 128 ≤ 127 by omega)
    rw [Nat.pow_succ] at h8
    split at h
    ·rename_i h1
     cases h
     rw [Nat.mod_eq_of_lt h1] at hm
     omega
    ·exact ih (i + 1) _ r m q (by omega) (by rw [Nat.pow_succ]; omega) h
end Go.Proofs.Ytdjpelcdijpihaa.PrintF
