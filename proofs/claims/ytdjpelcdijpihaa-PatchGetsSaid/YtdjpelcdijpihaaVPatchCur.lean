/- A part of the proof of the claim: what it uses of the text PatchCur. -/
import Derived.Test.YtdjpelcdijpihaaVPatchParse
import Derived.Test.YtdjpelcdijpihaaVPrintG1
import Derived.Laws.Bits64b
namespace Go.Proofs.Ytdjpelcdijpihaa.PrintF
open Go.RowKit Go.Proofs.Ytdjpelcdijpihaa.Print Go.Proofs.YtdjpelcdijpihaaW.PrintWords Go.Proofs.YtdjpelcdijpihaaW.PrintLast
set_option linter.unusedVariables false
def atOf (cb : ByteArray) (s : PS) : Int := ((cb.size - s.1.length : Nat) : Int)
def rdsOf (cb : ByteArray) : Nat := 2 * cb.size + 40
theorem suf_drop {cb : ByteArray} {s : PS} (h : s.1 <:+ bs cb) : s.1.length ≤ cb.size ∧ (bs cb).drop (cb.size - s.1.length) = s.1 := by
 have h1 := h.length_le
 rw [bs_length] at h1
 have h2 := List.suffix_iff_eq_drop.1 h
 rw [bs_length] at h2
 exact ⟨h1, h2.symm⟩
theorem gv_suf {l : List Nat} {i n m : Nat} {q : List Nat} (h : gv i n l = .ok (m, q)) : q <:+ l := by
 obtain ⟨p, _, rfl⟩ := gv_suffix l i n m q h
 exact List.drop_suffix _ _
theorem uintE_suf {l : List Nat} {n : Nat} {q : List Nat} (h : uintE l = .ok (n, q)) : q <:+ l := by
 unfold uintE at h
 split at h
 ·cases h
 ·split at h
  ·cases h
  ·rename_i hg _
   cases h
   exact gv_suf hg
section
variable {cb : ByteArray} (hb : cb.size ≤ 140737488355328)
include hb
theorem uint_cur (s : PS) (hs : s.1 <:+ bs cb) : cursor_Cursor_Uint.f (rdsOf cb) cb (atOf cb s) s.2 16777216 = some ((uintP s).1, cb, atOf cb (uintP s).2, (uintP s).2.2) ∧ (uintP s).2.1 <:+ bs cb := by
 obtain ⟨l, e⟩ := s
 cases e with
 | some e => exact ⟨uint_some _ _ _ _ (by unfold rdsOf; omega), hs⟩
 | none =>
  obtain ⟨h1, h2⟩ := suf_drop hs
  have := uint_none cb hb (cb.size - l.length) (by omega) (rdsOf cb) (by unfold rdsOf; omega)
  simp only [atOf]
  rw [this]
  simp only at h2
  rw [h2]
  simp only [uintP]
  cases hu : uintE l with
  | error e => exact ⟨rfl, hs⟩
  | ok x =>
   obtain ⟨n, q⟩ := x
   exact ⟨rfl, (uintE_suf hu).trans hs⟩
theorem number_cur (l : List Nat) (hs : l <:+ bs cb) : cursor_Cursor_number.f (rdsOf cb) cb (atOf cb (l, none)) none = some (match gv 0 0 l with
  | .error e => (0, 0, cb, atOf cb (l, none), some e)
  | .ok (n, q) => ((n : Int), ((cb.size - q.length : Nat) : Int), cb, atOf cb (l, none), none)) := by
 obtain ⟨h1, h2⟩ := suf_drop (s := (l, none)) hs
 unfold cursor_Cursor_number.f
 simp only [atOf]
 rw [if_pos hnone, varGet_eq _ cb (cb.size - l.length) hb (by omega) (by unfold rdsOf; omega), Option.bind_some]
 simp only at h2
 rw [h2]
 cases hg : gv 0 0 l with
 | error e =>
  have he : e ≠ 0 := by rcases gv_error _ _ _ _ hg with h | h <;> rw [h] <;> decide
  simp only [told]
  rw [fail_none _ _ _ he]
  rfl
 | ok x =>
  obtain ⟨n, q⟩ := x
  simp only [told]
  have hf0 : cursor_Cursor_Fail.f cb ((cb.size - l.length : Nat) : Int) none 0 = some (cb, ((cb.size - l.length : Nat) : Int), none) := by
   unfold cursor_Cursor_Fail.f
   rw [if_pos hnone, if_pos rfl]
  rw [hf0]
  rfl
omit hb in
theorem xor_ones (m : Nat) (h : m < 9223372036854775808) : Go.bits .xor .i64 (m : Int) (-1) = -(m : Int) - 1 := by
 have h1 : (BitVec.ofInt 64 (m : Int)).toNat = m := by
  rw [BitVec.ofInt_natCast, BitVec.toNat_ofNat]; exact Nat.mod_eq_of_lt (by omega)
 show IntKind.i64.wrap ((BitVec.ofInt 64 (m : Int) ^^^ BitVec.ofInt 64 (-1)).toNat : Int) = _
 rw [show BitVec.ofInt 64 (-1) = BitVec.allOnes 64 from rfl, BitVec.xor_allOnes, BitVec.toNat_not, h1, IntKind.wrap_i64]
 omega
omit hb in
theorem xor_zero (m : Nat) (h : m < 9223372036854775808) : Go.bits .xor .i64 (m : Int) 0 = (m : Int) := by
 have h1 : (BitVec.ofInt 64 (m : Int)).toNat = m := by
  rw [BitVec.ofInt_natCast, BitVec.toNat_ofNat]; exact Nat.mod_eq_of_lt (by omega)
 show IntKind.i64.wrap ((BitVec.ofInt 64 (m : Int) ^^^ BitVec.ofInt 64 0).toNat : Int) = _
 rw [show BitVec.ofInt 64 0 = 0#64 from rfl, BitVec.xor_zero, h1, IntKind.wrap_i64]
 omega
omit hb in
theorem zag_eq (n : Nat) (h : n < 18446744073709551616) : varint_Zag.f (n : Int) = some (zagN n) := by
 unfold varint_Zag.f
 have e1 : Go.bits .and .u64 (n : Int) 1 = ((n % 2 : Nat) : Int) := by
  have := bits_and_u64_nat n 1 h (by decide)
  rw [show ((1 : Nat) : Int) = 1 from rfl] at this
  rw [this, Nat.and_one_is_mod]
 rw [e1, show wrap64 ((n : Int) / 2) = ((n / 2 : Nat) : Int) by unfold wrap64; omega]
 unfold zagN
 by_cases h0 : n % 2 = 0
 ·rw [if_pos h0, h0, show wrap64 (-(wrap64 ((0 : Nat) : Int))) = 0 by unfold wrap64; omega, xor_zero _ (by omega)]
 ·rw [if_neg h0, show n % 2 = 1 by omega, show wrap64 (-(wrap64 ((1 : Nat) : Int))) = -1 by unfold wrap64; omega, xor_ones _ (by omega)]
theorem int_cur (s : PS) (hs : s.1 <:+ bs cb) : cursor_Cursor_Int.f (rdsOf cb) cb (atOf cb s) s.2 = some ((intP s).1, cb, atOf cb (intP s).2, (intP s).2.2) ∧ (intP s).2.1 <:+ bs cb := by
 obtain ⟨l, e⟩ := s
 cases e with
 | some e =>
  refine ⟨?_, hs⟩
  simp only [intP]
  unfold cursor_Cursor_Int.f cursor_Cursor_number.f
  rw [if_neg (by simp), Option.bind_some, if_neg (by simp)]
  rfl
 | none =>
  unfold cursor_Cursor_Int.f
  rw [show (l, (none : Option Int)).2 = none from rfl, number_cur hb l hs, Option.bind_some]
  simp only [intP]
  cases hg : gv 0 0 l with
  | error e =>
   simp only
   rw [if_neg (by simp)]
   exact ⟨rfl, hs⟩
  | ok x =>
   obtain ⟨n, q⟩ := x
   have hn := gv_big 9 0 0 _ _ _ rfl (by simp) hg
   simp only
   rw [if_pos hnone, zag_eq n hn]
   exact ⟨rfl, (gv_suf hg).trans hs⟩
theorem text_cur (s : PS) (hs : s.1 <:+ bs cb) : cursor_Cursor_Text.f (rdsOf cb) cb (atOf cb s) s.2 16777216 = some ((textP s).1, cb, atOf cb (textP s).2, (textP s).2.2) ∧ (textP s).2.1 <:+ bs cb := by
 have hu := uint_cur hb s hs
 obtain ⟨l, e⟩ := s
 unfold cursor_Cursor_Text.f
 rw [show IntKind.u64.wrap (mx 16777216 0) = 16777216 by decide, hu.1, Option.bind_some]
 cases e with
 | some e =>
  refine ⟨?_, hs⟩
  simp only [uintP, textP]
  rw [bytes_some, Option.bind_some, if_neg (by simp)]
  rfl
 | none =>
  obtain ⟨h1, h2⟩ := suf_drop hs
  simp only at h1 h2
  simp only [uintP, textP]
  cases hg : uintE l with
  | error e =>
   simp only
   rw [bytes_some, Option.bind_some, if_neg (by simp)]
   exact ⟨rfl, hs⟩
  | ok x =>
   obtain ⟨n, q⟩ := x
   have hq := (uintE_suf hg).trans hs
   obtain ⟨h3, h4⟩ := suf_drop (s := (q, none)) hq
   simp only at h3 h4
   simp only [atOf]
   by_cases hn : q.length < n
   ·rw [bytes_cut cb hb (cb.size - q.length) (by omega) n (by omega), Option.bind_some, if_neg (by simp), if_pos hn]
    exact ⟨rfl, hs⟩
   ·rw [bytes_ok cb hb (cb.size - q.length) (by omega) n (by omega), Option.bind_some, if_pos hnone, if_neg hn, h4]
    refine ⟨?_, (List.drop_suffix _ _).trans hq⟩
    simp only [List.length_drop]
    rw [show cb.size - q.length + n = cb.size - (q.length - n) by omega]
omit hb in
theorem fail_cur (e : Int) (he : e ≠ 0) (s : PS) : cursor_Cursor_Fail.f cb (atOf cb s) s.2 e = some (cb, atOf cb (failP e s), (failP e s).2) ∧ (failP e s).1 = s.1 := by
 obtain ⟨l, x⟩ := s
 cases x with
 | some x => exact ⟨fail_some _ _ _ _, rfl⟩
 | none => exact ⟨fail_none _ _ _ he, rfl⟩
omit hb in
theorem failP_fst (e : Int) (s : PS) : (failP e s).1 = s.1 := by unfold failP; split <;> rfl
theorem set_cur (s : PS) (hs : s.1 <:+ bs cb) : patch_set.f (rdsOf cb + 1) cb (atOf cb s) s.2 = some ((setP s).1.f0, (setP s).1.f1, (setP s).1.f2, (setP s).1.f3, cb, atOf cb (setP s).2, (setP s).2.2) ∧ (setP s).2.1 <:+ bs cb := by
 have key : ∀ u : Int × PS, u.2.1 <:+ bs cb → patch_set.j0 (rdsOf cb + 1) cb (atOf cb u.2) u.2.2 (u.1 == 1) 0 0 (⟨#[]⟩ : ByteArray) = some (
   (if u.1 = 1 then (⟨true, (uintP u.2).1, 0, (textP (uintP u.2).2).1⟩, (textP (uintP u.2).2).2) else ((⟨false, (uintP u.2).1, (intP (uintP u.2).2).1, ⟨#[]⟩⟩ : S127), (intP (uintP u.2).2).2)).1.f0,
   (if u.1 = 1 then (⟨true, (uintP u.2).1, 0, (textP (uintP u.2).2).1⟩, (textP (uintP u.2).2).2) else ((⟨false, (uintP u.2).1, (intP (uintP u.2).2).1, ⟨#[]⟩⟩ : S127), (intP (uintP u.2).2).2)).1.f1,
   (if u.1 = 1 then (⟨true, (uintP u.2).1, 0, (textP (uintP u.2).2).1⟩, (textP (uintP u.2).2).2) else ((⟨false, (uintP u.2).1, (intP (uintP u.2).2).1, ⟨#[]⟩⟩ : S127), (intP (uintP u.2).2).2)).1.f2,
   (if u.1 = 1 then (⟨true, (uintP u.2).1, 0, (textP (uintP u.2).2).1⟩, (textP (uintP u.2).2).2) else ((⟨false, (uintP u.2).1, (intP (uintP u.2).2).1, ⟨#[]⟩⟩ : S127), (intP (uintP u.2).2).2)).1.f3, cb,
   atOf cb (if u.1 = 1 then (⟨true, (uintP u.2).1, 0, (textP (uintP u.2).2).1⟩, (textP (uintP u.2).2).2) else ((⟨false, (uintP u.2).1, (intP (uintP u.2).2).1, ⟨#[]⟩⟩ : S127), (intP (uintP u.2).2).2)).2,
   (if u.1 = 1 then (⟨true, (uintP u.2).1, 0, (textP (uintP u.2).2).1⟩, (textP (uintP u.2).2).2) else ((⟨false, (uintP u.2).1, (intP (uintP u.2).2).1, ⟨#[]⟩⟩ : S127), (intP (uintP u.2).2).2)).2.2) ∧
   (if u.1 = 1 then (⟨true, (uintP u.2).1, 0, (textP (uintP u.2).2).1⟩, (textP (uintP u.2).2).2) else ((⟨false, (uintP u.2).1, (intP (uintP u.2).2).1, ⟨#[]⟩⟩ : S127), (intP (uintP u.2).2).2)).2.1 <:+ bs cb := by
  intro u hu
  obtain ⟨h1, h2⟩ := uint_cur hb u.2 hu
  obtain ⟨h3, h4⟩ := text_cur hb _ h2
  obtain ⟨h5, h6⟩ := int_cur hb _ h2
  simp only [patch_set.j0]
  rw [h1, Option.bind_some]
  by_cases h : u.1 = 1
  ·simp only [if_pos h, beq_iff_eq.mpr h]
   rw [if_pos trivial, h3]
   exact ⟨rfl, h4⟩
  ·simp only [if_neg h, beq_eq_false_iff_ne.mpr h]
   rw [if_neg Bool.false_ne_true, h5]
   exact ⟨rfl, h6⟩
 obtain ⟨h1, h2⟩ := uint_cur hb s hs
 have m1 := cursor_Cursor_Uint.mono cb (atOf cb s) s.2 16777216 (rdsOf cb) _ h1
 unfold patch_set.f
 rw [m1, Option.bind_some]
 simp only [setP]
 by_cases h : 1 < (uintP s).1
 ·have hf := fail_cur (cb := cb) 21 (by decide) (uintP s).2
  rw [if_pos h, hf.1, Option.bind_some, if_pos h]
  exact key ((uintP s).1, failP 21 (uintP s).2) (by rw [failP_fst]; exact h2)
 ·rw [if_neg h, if_neg h]
  exact key (uintP s) h2
theorem edit_cur (s : PS) (hs : s.1 <:+ bs cb) : patch_edit.f (rdsOf cb + 1) cb (atOf cb s) s.2 = some ((editP s).1.f0, (editP s).1.f1, cb, atOf cb (editP s).2, (editP s).2.2) ∧ (editP s).2.1 <:+ bs cb := by
 obtain ⟨h1, h2⟩ := uint_cur hb s hs
 have m1 := cursor_Cursor_Uint.mono cb (atOf cb s) s.2 16777216 (rdsOf cb) _ h1
 have hf := fail_cur (cb := cb) 21 (by decide) (uintP s).2
 obtain ⟨h3, h4⟩ := uint_cur hb (failP 21 (uintP s).2) (by rw [failP_fst]; exact h2)
 obtain ⟨h5, h6⟩ := uint_cur hb (uintP s).2 h2
 have kt : patch_edit.j0 (rdsOf cb + 1) true cb (atOf cb (uintP s).2) (uintP s).2.2 (uintP s).1 0 = some ((uintP s).1, (uintP (failP 21 (uintP s).2)).1, cb, atOf cb (uintP (failP 21 (uintP s).2)).2, (uintP (failP 21 (uintP s).2)).2.2) := by
  simp only [patch_edit.j0]
  rw [if_pos trivial, hf.1, Option.bind_some, h3]
  rfl
 have kf : patch_edit.j0 (rdsOf cb + 1) false cb (atOf cb (uintP s).2) (uintP s).2.2 (uintP s).1 0 = some ((uintP s).1, (uintP (uintP s).2).1, cb, atOf cb (uintP (uintP s).2).2, (uintP (uintP s).2).2.2) := by
  simp only [patch_edit.j0]
  rw [if_neg Bool.false_ne_true, h5]
  rfl
 unfold patch_edit.f
 rw [m1, Option.bind_some]
 simp only [editP]
 by_cases h0 : (uintP s).1 < 1
 ·rw [if_pos h0, if_pos (.inl h0)]
  exact ⟨kt, h4⟩
 ·rw [if_neg h0]
  by_cases h3 : 3 < (uintP s).1
  ·rw [show decide ((uintP s).1 > 3) = true from decide_eq_true h3, if_pos (.inr h3)]
   exact ⟨kt, h4⟩
  ·rw [show decide ((uintP s).1 > 3) = false from decide_eq_false h3, if_neg (by omega)]
   exact ⟨kf, h6⟩
end
def Good (cb : ByteArray) (s : PS) : Prop := s.1 <:+ bs cb ∧ ∀ e, s.2 = some e → e ≠ 0
theorem uintE_ne {l : List Nat} {e : Int} (h : uintE l = .error e) : e ≠ 0 := by
 unfold uintE at h
 split at h
 ·rename_i e' hg
  cases h
  rcases gv_error _ _ _ _ hg with h | h <;> rw [h] <;> decide
 ·split at h
  ·cases h; decide
  ·cases h
section
variable {cb : ByteArray} {s : PS} (h : Good cb s)
include h
theorem Good.uint : Good cb (uintP s).2 := by
 obtain ⟨l, e⟩ := s
 cases e with
 | some e => exact h
 | none =>
  simp only [uintP]
  cases hu : uintE l with
  | error e => exact ⟨h.1, fun x hx => by cases hx; exact uintE_ne hu⟩
  | ok x => exact ⟨(uintE_suf hu).trans h.1, fun x hx => by cases hx⟩
theorem Good.int : Good cb (intP s).2 := by
 obtain ⟨l, e⟩ := s
 cases e with
 | some e => exact h
 | none =>
  simp only [intP]
  cases hu : gv 0 0 l with
  | error e => exact ⟨h.1, fun x hx => by cases hx; rcases gv_error _ _ _ _ hu with h | h <;> rw [h] <;> decide⟩
  | ok x => exact ⟨(gv_suf hu).trans h.1, fun x hx => by cases hx⟩
theorem Good.text : Good cb (textP s).2 := by
 obtain ⟨l, e⟩ := s
 cases e with
 | some e => exact h
 | none =>
  simp only [textP]
  cases hu : uintE l with
  | error e => exact ⟨h.1, fun x hx => by cases hx; exact uintE_ne hu⟩
  | ok x =>
   simp only
   split
   ·exact ⟨h.1, fun x hx => by cases hx; decide⟩
   ·exact ⟨(List.drop_suffix _ _).trans ((uintE_suf hu).trans h.1), fun x hx => by cases hx⟩
theorem Good.fail {e : Int} (he : e ≠ 0) : Good cb (failP e s) := by
 obtain ⟨l, x⟩ := s
 cases x with
 | some x => exact h
 | none => exact ⟨h.1, fun y hy => by cases hy; exact he⟩
theorem Good.failIf {c : Prop} [Decidable c] : Good cb (if c then failP 21 s else s) := by
 split
 ·exact h.fail (by decide)
 ·exact h
end
theorem Good.set {cb : ByteArray} {s : PS} (h : Good cb s) : Good cb (setP s).2 := by
 simp only [setP]
 split
 ·exact h.uint.failIf.uint.text
 ·exact h.uint.failIf.uint.int
theorem Good.edit {cb : ByteArray} {s : PS} (h : Good cb s) : Good cb (editP s).2 := by
 simp only [editP]
 exact h.uint.failIf.uint
theorem Good.iter {α : Type} {cb : ByteArray} {step : PS → α × PS} (hs : ∀ s, Good cb s → Good cb (step s).2) : ∀ (n : Nat) (s : PS), Good cb s → Good cb (iterP step n s).2
 | 0, s, h => h
 | n + 1, s, h => by
  simp only [iterP]
  split
  ·exact h
  ·exact Good.iter hs n _ (hs s h)
theorem Good.count {α : Type} {cb : ByteArray} {step : PS → α × PS} {s : PS} (hs : ∀ s, Good cb s → Good cb (step s).2) (h : Good cb s) : Good cb (countP step s).2 := Good.iter hs _ _ h.uint
theorem uintP_range (s : PS) : 0 ≤ (uintP s).1 ∧ (uintP s).1 ≤ 16777216 := by
 unfold uintP
 split
 ·simp
 ·split
  ·simp
  ·rename_i hu
   unfold uintE at hu
   split at hu
   ·cases hu
   ·split at hu
    ·cases hu
    ·cases hu
     simp only
     omega
end Go.Proofs.Ytdjpelcdijpihaa.PrintF
