/- A part of the proof of the claim: what it uses of the text RefCur. -/
import Derived.Test.YtdjpelcdijpihaaVPatchCur
import Derived.Test.YtdjpelcdijpihaaVHandRefText
import Derived.Test.YtdjpelcdijpihaaVPrintG6
import Derived.Test.YtdjpelcdijpihaaVVarGetRef
namespace Go.Proofs.Ytdjpelcdijpihaa.PrintF
open Go.RowKit Go.Proofs.Ytdjpelcdijpihaa.Print Go.Proofs.YtdjpelcdijpihaaW.PrintWords Go.Proofs.YtdjpelcdijpihaaW.PrintLast
set_option linter.unusedVariables false
def erOf (s : PS) : Int := s.2.getD 0
section
variable {cb : ByteArray} (hb : cb.size ≤ 1099511627776) (k : Nat) (hk : 4 * cb.size + 20 < k) (s : PS) (hs : Good cb s)
include hb hk hs
theorem ruint_cur : dioramaref02_Cursor_Uint.f k cb (atOf cb s) (erOf s) 16777216 = some ((uintP s).1, cb, atOf cb (uintP s).2, erOf (uintP s).2) := by
 obtain ⟨l, e⟩ := s
 unfold dioramaref02_Cursor_Uint.f
 cases e with
 | some e =>
  have he := hs.2 e rfl
  rw [if_neg (show ¬ erOf (l, some e) = 0 from he)]
  rfl
 | none =>
  obtain ⟨h1, h2⟩ := suf_drop hs.1
  simp only at h1 h2
  obtain ⟨k, rfl⟩ : ∃ m, k = m + 1 := ⟨k - 1, by omega⟩
  rw [if_pos (show erOf (l, none) = 0 from rfl)]
  simp only [atOf]
  obtain ⟨x, y, z, ht⟩ : ∃ x y z, told cb.size (gv 0 0 l) = (x, y, z) := ⟨_, _, _, rfl⟩
  rw [refGet_eq _ cb (cb.size - l.length) (by omega) (by omega) (by omega), Option.bind_some, h2, ht]
  simp only [uintP, uintE]
  cases hg : gv 0 0 l with
  | error e =>
   have he : e ≠ 0 := by rcases gv_error _ _ _ _ hg with h | h <;> rw [h] <;> decide
   rw [hg] at ht
   simp only [told, Prod.mk.injEq] at ht
   obtain ⟨rfl, rfl, rfl⟩ := ht
   rw [if_neg he]
   simp only [dioramaref02_Cursor_Uint.j0]
   rw [if_neg Bool.false_ne_true, if_neg he]
   rfl
  | ok v =>
   obtain ⟨n, q⟩ := v
   rw [hg] at ht
   simp only [told, Prod.mk.injEq] at ht
   obtain ⟨rfl, rfl, rfl⟩ := ht
   rw [if_pos rfl]
   by_cases hn : 16777216 < n
   ·rw [if_pos (by omega)]
    simp only [if_pos hn, dioramaref02_Cursor_Uint.j0]
    rw [if_pos trivial, if_neg (by decide)]
    rfl
   ·rw [if_neg (by omega), decide_eq_false (by omega)]
    simp only [if_neg hn]
    simp only [dioramaref02_Cursor_Uint.j0]
    rw [if_neg Bool.false_ne_true, if_pos trivial, wrap_id (by omega) (by omega)]
    rfl
theorem rint_cur : dioramaref02_Cursor_Int.f k cb (atOf cb s) (erOf s) = some ((intP s).1, cb, atOf cb (intP s).2, erOf (intP s).2) := by
 obtain ⟨l, e⟩ := s
 unfold dioramaref02_Cursor_Int.f
 cases e with
 | some e =>
  have he := hs.2 e rfl
  rw [if_neg (show ¬ erOf (l, some e) = 0 from he)]
  rfl
 | none =>
  obtain ⟨h1, h2⟩ := suf_drop hs.1
  simp only at h1 h2
  rw [if_pos (show erOf (l, none) = 0 from rfl)]
  simp only [atOf]
  obtain ⟨x, y, z, ht⟩ : ∃ x y z, told cb.size (gv 0 0 l) = (x, y, z) := ⟨_, _, _, rfl⟩
  rw [refGet_eq _ cb (cb.size - l.length) (by omega) (by omega) (by omega), Option.bind_some, h2, ht]
  simp only [intP]
  cases hg : gv 0 0 l with
  | error e =>
   have he : e ≠ 0 := by rcases gv_error _ _ _ _ hg with h | h <;> rw [h] <;> decide
   rw [hg] at ht
   simp only [told, Prod.mk.injEq] at ht
   obtain ⟨rfl, rfl, rfl⟩ := ht
   rw [if_neg he]
   rfl
  | ok v =>
   obtain ⟨n, q⟩ := v
   have hn := gv_big 9 0 0 _ _ _ rfl (by simp) hg
   rw [hg] at ht
   simp only [told, Prod.mk.injEq] at ht
   obtain ⟨rfl, rfl, rfl⟩ := ht
   rw [if_pos rfl]
   have hz : dioramaref01_Zag.f (n : Int) = some (zagN n) := by
    unfold dioramaref01_Zag.f zagN
    have e1 : Int.tmod (n : Int) 2 = ((n % 2 : Nat) : Int) := rfl
    have e2 : Int.tdiv (n : Int) 2 = ((n / 2 : Nat) : Int) := rfl
    rw [e1, e2]
    by_cases h0 : n % 2 = 0
    ·rw [if_pos (by omega), if_pos h0, IntKind.wrap_u64]
     congr 1
     unfold wrap64
     omega
    ·rw [if_neg (by omega), if_neg h0, IntKind.wrap_u64]
     have hm : n / 2 < 9223372036854775808 := by omega
     generalize n / 2 = m at hm ⊢
     have e3 : (m : Int) % 18446744073709551616 = (m : Int) := by omega
     have e4 : wrap64 (m : Int) = (m : Int) := by unfold wrap64; omega
     have e5 : wrap64 (-(m : Int)) = -(m : Int) := by unfold wrap64; omega
     have e6 : wrap64 (-(m : Int) - 1) = -(m : Int) - 1 := by unfold wrap64; omega
     rw [e3, e4, e5, e6]
   rw [hz, Option.bind_some]
   simp only [erOf, Option.getD_none]
theorem rtext_cur : dioramaref02_Cursor_Text.f k cb (atOf cb s) (erOf s) 16777216 = some ((textP s).1, cb, atOf cb (textP s).2, erOf (textP s).2) := by
 have hu := ruint_cur hb k hk s hs
 have hg := hs.uint
 obtain ⟨l, e⟩ := s
 unfold dioramaref02_Cursor_Text.f
 rw [if_pos rfl]
 cases e with
 | some e =>
  have he := hs.2 e rfl
  rw [if_neg (show ¬ erOf (l, some e) = 0 from he)]
  rfl
 | none =>
  obtain ⟨h1, h2⟩ := suf_drop hs.1
  simp only at h1 h2
  rw [if_pos (show erOf (l, none) = 0 from rfl), show (0 : Int) = erOf (l, none) from rfl, hu, Option.bind_some]
  simp only [uintP, textP] at hg ⊢
  cases hx : uintE l with
  | error e =>
   have he := uintE_ne hx
   simp only
   unfold dioramaref02_Cursor_Bytes.f
   rw [if_neg (show ¬ erOf (l, some e) = 0 from he), Option.bind_some]
   exact if_neg he
  | ok x =>
   obtain ⟨n, q⟩ := x
   have hn : n ≤ 16777216 := by
    unfold uintE at hx
    split at hx
    ·cases hx
    ·split at hx
     ·cases hx
     ·cases hx; omega
   have hq := (uintE_suf hx).trans hs.1
   obtain ⟨h3, h4⟩ := suf_drop (s := (q, none)) hq
   simp only at h3 h4
   simp only
   unfold dioramaref02_Cursor_Bytes.f
   rw [if_pos (show erOf (q, none) = 0 from rfl), if_neg (by omega)]
   have ha : atOf cb (q, none) = ((cb.size - q.length : Nat) : Int) := rfl
   by_cases hc : q.length < n
   ·rw [if_pos (by rw [ha]; unfold wrap64; omega), Option.bind_some, if_pos hc]
    exact if_neg (show ¬ (2 : Int) = 0 by decide)
   ·have e1 : wrap64 (atOf cb (q, none) + (n : Int)) = ((cb.size - q.length + n : Nat) : Int) := by rw [ha]; unfold wrap64; omega
    have e2 : wrap64 (((cb.size - q.length + n : Nat) : Int) - (n : Int)) = ((cb.size - q.length : Nat) : Int) := by unfold wrap64; omega
    rw [if_neg (by rw [ha]; unfold wrap64; omega), e1, e2, if_pos (by omega), if_pos (by omega), if_pos (by omega), Option.bind_some, if_neg hc]
    refine (if_pos (show (0 : Int) = 0 from rfl)).trans ?_
    dsimp only
    rw [Int.toNat_natCast, Int.toNat_natCast, extract_mkB, List.drop_take, h4,
     show cb.size - q.length + n - (cb.size - q.length) = n by omega]
    simp only [atOf, erOf, List.length_drop]
    rw [show cb.size - q.length + n = cb.size - (q.length - n) by omega]
end
theorem rfail_cur {cb : ByteArray} (s : PS) (hs : Good cb s) (e : Int) (he : e ≠ 0) : dioramaref02_Cursor_Fail.f cb (atOf cb s) (erOf s) e = some (cb, atOf cb (failP e s), erOf (failP e s)) := by
 obtain ⟨l, x⟩ := s
 unfold dioramaref02_Cursor_Fail.f
 cases x with
 | some x => rw [if_neg (show ¬ erOf (l, some x) = 0 from hs.2 x rfl)]; rfl
 | none => rw [if_pos (show erOf (l, none) = 0 from rfl)]; rfl
end Go.Proofs.Ytdjpelcdijpihaa.PrintF
