/- A part of the proof of the claim: what it uses of the text FrameGet. -/
import Derived.Test.YtdjpelcdijpihaaVPrintF3
import Derived.Test.YtdjpelcdijpihaaVVarGet
import Derived.Test.YtdjpelcdijpihaaVHandFrame
namespace Go.Proofs.Ytdjpelcdijpihaa.PrintF
open Go.RowKit Go.Proofs.Ytdjpelcdijpihaa.Print Go.Proofs.YtdjpelcdijpihaaW.PrintWords Go.Proofs.YtdjpelcdijpihaaW.PrintLast
def mkB (l : List Nat) : ByteArray := ⟨(u8s l).toArray⟩
theorem mkB_bs (a : ByteArray) : mkB (bs a) = a := by
 apply ByteArray.ext
 apply Array.ext'
 simp only [mkB, u8s, bs, List.map_map]
 apply List.ext_getElem
 ·simp
 ·intro i h1 h2
  simp
theorem bs_mkB {l : List Nat} (h : ∀ c ∈ l, c < 256) : bs (mkB l) = l := by
 simp only [mkB, u8s, bs, List.map_map]
 apply List.ext_getElem
 ·simp
 ·intro i h1 h2
  have := h _ (List.getElem_mem h2)
  simp
  omega
theorem bs_extract (a : ByteArray) (p q : Nat) : bs (a.extract p q) = ((bs a).take q).drop p := by
 simp only [bs]
 rw [ByteArray.data_extract, Array.toList_extract, List.extract_eq_take_drop, List.map_take, List.map_drop, List.drop_take]
theorem extract_mkB (a : ByteArray) (p q : Nat) : a.extract p q = mkB (((bs a).take q).drop p) := by
 rw [← bs_extract, mkB_bs]
theorem mkB_size (l : List Nat) : (mkB l).size = l.length := by simp [mkB, u8s, ByteArray.size]
theorem mkB_inj {l m : List Nat} (hl : ∀ c ∈ l, c < 256) (hm : ∀ c ∈ m, c < 256) (h : mkB l = mkB m) : l = m := by
 rw [← bs_mkB hl, h, bs_mkB hm]
theorem take_lt {l : List Nat} (h : ∀ c ∈ l, c < 256) (n : Nat) : ∀ c ∈ l.take n, c < 256 := fun c hc => h c (List.mem_of_mem_take hc)
theorem drop_lt {l : List Nat} (h : ∀ c ∈ l, c < 256) (n : Nat) : ∀ c ∈ l.drop n, c < 256 := fun c hc => h c (List.mem_of_mem_drop hc)
def secE : List Nat → Except Int (S52 × List Nat)
 | [] => .error 0
 | i :: r => if i = 0 then .error 4 else match gv 0 0 r with
  | .error e => .error e
  | .ok (n, q) => if 16777216 < n then .error 19 else if q.length < n + 4 then .error 2 else if (q.drop n).take 4 = le4N (sumN (q.take n)) then .ok (⟨i, mkB (q.take n)⟩, q.drop (n + 4)) else .error 5
def secsE : Nat → List S52 → List Nat → Except Int (List S52)
 | 0, acc, _ => .ok acc
 | k + 1, acc, l => if l = [] then .ok acc else if acc.length = 8 then .error 8 else match secE l with
  | .error e => .error e
  | .ok (s, r) => secsE k (acc ++ [s]) r
def getE : List Nat → Except Int (Nat × List S52)
 | [] => .error 2
 | v :: r => if v = 0 then .error 7 else match secsE r.length [] r with
  | .error e => .error e
  | .ok l => .ok (v, l)
def tellG : Except Int (Nat × List S52) → Int × List S52 × Int
 | .error e => (0, [], e)
 | .ok (v, l) => (v, l, 0)
theorem gv_suffix : ∀ (l : List Nat) (i n m : Nat) (r : List Nat), gv i n l = .ok (m, r) → ∃ p, p < l.length ∧ r = l.drop (p + 1)
 | [], i, n, m, r, h => by simp [gv] at h
 | c :: l, i, n, m, r, h => by
  rw [gv] at h
  split at h
  ·cases h
  ·split at h
   ·cases h
    exact ⟨0, by simp, rfl⟩
   ·obtain ⟨p, hp, hr⟩ := gv_suffix l _ _ _ _ h
    exact ⟨p + 1, by simp; omega, by rw [hr]; rfl⟩
theorem gv_error : ∀ (l : List Nat) (i n : Nat) (e : Int), gv i n l = .error e → e = 2 ∨ e = 3
 | [], i, n, e, h => by simp [gv] at h; exact .inl h.symm
 | c :: l, i, n, e, h => by
  rw [gv] at h
  split at h
  ·cases h; exact .inr rfl
  ·split at h
   ·cases h
   ·exact gv_error l _ _ _ h
theorem secE_error : ∀ (l : List Nat) (e : Int), secE l = .error e → l ≠ [] → e ≠ 0
 | [], e, h, hn => absurd rfl hn
 | i :: r, e, h, _ => by
  simp only [secE] at h
  split at h
  ·cases h; decide
  ·split at h
   ·rename_i e' hg
    cases h
    rcases gv_error _ _ _ _ hg with h | h <;> rw [h] <;> decide
   ·split at h
    ·cases h; decide
    ·split at h
     ·cases h; decide
     ·split at h
      ·cases h
      ·cases h; decide
theorem hnone : (none : Option Int).isNone = true := rfl
section
variable (b : ByteArray) (hb : b.size ≤ 140737488355328) (p : Nat) (hp : p ≤ b.size)
theorem fail_none (t e : Int) (he : e ≠ 0) : cursor_Cursor_Fail.f b t none e = some (b, t, some e) := by
 unfold cursor_Cursor_Fail.f
 rw [if_pos hnone, if_neg he]
theorem fail_some (t e e' : Int) : cursor_Cursor_Fail.f b t (some e') e = some (b, t, some e') := by
 unfold cursor_Cursor_Fail.f
 rw [if_neg (by simp)]
 rfl
theorem get_empty : crc_Get.f ⟨#[]⟩ = some (0, false) := Pure.get_none _ (by decide)
theorem bytes_some (t n e : Int) : cursor_Cursor_Bytes.f b t (some e) n = some (⟨#[]⟩, b, t, some e) := by
 unfold cursor_Cursor_Bytes.f
 rw [if_neg (by simp)]
 rfl
include hb hp
theorem left_eq (x : Option Int) : cursor_Cursor_Left.f b (p : Int) x = some (((b.size - p : Nat) : Int), b, (p : Int), x) := by
 unfold cursor_Cursor_Left.f
 rw [wrap_id (by omega) (by omega)]
 congr 2
 omega
theorem bytes_cut (n : Nat) (hn : b.size - p < n) : cursor_Cursor_Bytes.f b (p : Int) none (n : Int) = some (⟨#[]⟩, b, (p : Int), some 2) := by
 unfold cursor_Cursor_Bytes.f
 rw [if_pos hnone, if_neg (by omega), left_eq b hb p hp, Option.bind_some, if_pos (by omega), fail_none _ _ _ (by decide)]
 rfl
theorem bytes_ok (n : Nat) (hn : n ≤ b.size - p) : cursor_Cursor_Bytes.f b (p : Int) none (n : Int) = some (mkB (((bs b).drop p).take n), b, ((p + n : Nat) : Int), none) := by
 unfold cursor_Cursor_Bytes.f
 rw [if_pos hnone, if_neg (by omega), left_eq b hb p hp, Option.bind_some, if_neg (by omega)]
 simp only
 rw [wrap_id (by omega) (by omega), if_pos (by omega), if_pos (by omega), if_pos (by omega), extract_mkB, Int.toNat_natCast, show ((p : Int) + (n : Int)).toNat = p + n by omega, List.drop_take, show p + n - p = n by omega]
 congr 2
theorem byte_ok (h : p < b.size) : ∃ c, c < 256 ∧ (bs b).drop p = c :: (bs b).drop (p + 1) ∧ cursor_Cursor_Byte.f b (p : Int) none = some ((c : Int), b, ((p + 1 : Nat) : Int), none) := by
 obtain ⟨c, hc, _, hd⟩ := bt_drop b p h
 refine ⟨c, hc, hd, ?_⟩
 unfold cursor_Cursor_Byte.f
 have := bytes_ok b hb p hp 1 (by omega)
 rw [hd] at this
 rw [show (1 : Int) = ((1 : Nat) : Int) from rfl, this, Option.bind_some]
 have hs : (mkB (List.take 1 (c :: List.drop (p + 1) (bs b)))).size = 1 := by rw [mkB_size]; rfl
 have hne : ¬ (mkB (List.take 1 (c :: List.drop (p + 1) (bs b)))).toList = [] := by
  rw [ByteArray.toList_eq]
  simp [mkB, u8s]
 rw [if_neg hne, if_pos (by rw [hs]; decide)]
 congr 2
 obtain ⟨x, hx, hb0⟩ := bt_drop (mkB (List.take 1 (c :: List.drop (p + 1) (bs b)))) 0 (by omega)
 rw [bs_mkB (by intro y hy; simp at hy; omega)] at hb0
 have := hb0.2
 simp at this
 rw [show (0 : Int) = ((0 : Nat) : Int) from rfl, hb0.1, this]
theorem byte_cut (h : p = b.size) : cursor_Cursor_Byte.f b (p : Int) none = some (0, b, (p : Int), some 2) := by
 unfold cursor_Cursor_Byte.f
 rw [show (1 : Int) = ((1 : Nat) : Int) from rfl, bytes_cut b hb p hp 1 (by omega), Option.bind_some, if_pos (by rw [ByteArray.toList_eq])]
omit hb hp in
theorem uint_some (k : Nat) (t e : Int) (hk : 0 < k) : cursor_Cursor_Uint.f k b t (some e) 16777216 = some (0, b, t, some e) := by
 obtain ⟨k, rfl⟩ : ∃ m, k = m + 1 := ⟨k - 1, by omega⟩
 unfold cursor_Cursor_Uint.f cursor_Cursor_number.f
 rw [if_neg (by simp), Option.bind_some, if_neg (by simp)]
 simp only [cursor_Cursor_Uint.j0]
 rw [if_neg (by simp), if_neg (by simp)]
 rfl
def uintE (l : List Nat) : Except Int (Nat × List Nat) := match gv 0 0 l with
 | .error e => .error e
 | .ok (n, q) => if 16777216 < n then .error 19 else .ok (n, q)
theorem uint_none (k : Nat) (hk : 2 * b.size + 11 < k) : cursor_Cursor_Uint.f k b (p : Int) none 16777216 = some (match uintE ((bs b).drop p) with
  | .error e => (0, b, (p : Int), some e)
  | .ok (n, q) => ((n : Int), b, ((b.size - q.length : Nat) : Int), none)) := by
 obtain ⟨k, rfl⟩ : ∃ m, k = m + 1 := ⟨k - 1, by omega⟩
 unfold cursor_Cursor_Uint.f cursor_Cursor_number.f uintE
 rw [if_pos hnone, varGet_eq _ b p hb hp (by omega), Option.bind_some]
 cases hg : gv 0 0 ((bs b).drop p) with
 | error e =>
  have he : e ≠ 0 := by rcases gv_error _ _ _ _ hg with h | h <;> rw [h] <;> decide
  simp only [told]
  rw [fail_none _ _ _ he, Option.bind_some, Option.bind_some, if_neg (by simp)]
  simp only [cursor_Cursor_Uint.j0]
  rw [if_neg (by simp), if_neg (by simp)]
  rfl
 | ok x =>
  obtain ⟨n, q⟩ := x
  simp only [told]
  have hf0 : cursor_Cursor_Fail.f b (p : Int) none 0 = some (b, (p : Int), none) := by
   unfold cursor_Cursor_Fail.f
   rw [if_pos hnone, if_pos rfl]
  rw [hf0, Option.bind_some, Option.bind_some, if_pos hnone]
  simp only [cursor_Cursor_Uint.j0]
  rw [show mn 16777216 16777216 = (16777216 : Int) from rfl]
  by_cases hn : 16777216 < n
  ·rw [show decide ((n : Int) > 16777216) = true from decide_eq_true (by omega), if_pos rfl, fail_none _ _ _ (by decide), Option.bind_some, if_neg (by simp), if_pos hn]
   rfl
  ·rw [show decide ((n : Int) > 16777216) = false from decide_eq_false (by omega), if_neg (by simp), if_pos hnone, if_neg hn, wrap_id (by omega) (by omega)]
omit hb hp in
theorem crcGet_mkB (l : List Nat) (h : l.length = 4) (hl : ∀ c ∈ l, c < 256) (n : Nat) (hn : n < 4294967296) : ∃ m, crc_Get.f (mkB l) = some ((m : Int), true) ∧ (m = n ↔ l = le4N n) := by
 match l, h with
 | [c0, c1, c2, c3], _ =>
  have h0 := hl c0 (by simp)
  have h1 := hl c1 (by simp)
  have h2 := hl c2 (by simp)
  have h3 := hl c3 (by simp)
  have hs : (mkB [c0, c1, c2, c3]).size = 4 := by rw [mkB_size]; rfl
  have e0 : bt (mkB [c0, c1, c2, c3]) 0 = (c0 : Int) := by
   show ((UInt8.ofNat c0).toNat : Int) = _
   rw [UInt8.toNat_ofNat']; omega
  have e1 : bt (mkB [c0, c1, c2, c3]) 1 = (c1 : Int) := by
   show ((UInt8.ofNat c1).toNat : Int) = _
   rw [UInt8.toNat_ofNat']; omega
  have e2 : bt (mkB [c0, c1, c2, c3]) 2 = (c2 : Int) := by
   show ((UInt8.ofNat c2).toNat : Int) = _
   rw [UInt8.toNat_ofNat']; omega
  have e3 : bt (mkB [c0, c1, c2, c3]) 3 = (c3 : Int) := by
   show ((UInt8.ofNat c3).toNat : Int) = _
   rw [UInt8.toNat_ofNat']; omega
  refine ⟨c0 + 256 * c1 + 65536 * c2 + 16777216 * c3, ?_, ?_⟩
  ·rw [Pure.get_eq _ hs, e0, e1, e2, e3]
  ·simp only [le4N, List.cons.injEq, and_true]
   omega
theorem section_eq (k : Nat) (hk : 2 * b.size + 20 < k) (hlt : p < b.size) : match secE ((bs b).drop p) with
  | .ok (s, r) => frame_section.f k b (p : Int) none = some (s.f0, s.f1, b, ((b.size - r.length : Nat) : Int), none) ∧ ∃ q, r = (bs b).drop q ∧ p < q ∧ q ≤ b.size
  | .error e => ∃ i x t, frame_section.f k b (p : Int) none = some (i, x, b, t, some e) := by
 obtain ⟨k, rfl⟩ : ∃ m, k = m + 3 := ⟨k - 3, by omega⟩
 obtain ⟨c, hc, hd, hby⟩ := byte_ok b hb p hp hlt
 rw [hd]
 unfold frame_section.f
 rw [hby, Option.bind_some]
 simp only
 rw [wrap_id (by omega) (by omega)]
 simp only [secE]
 by_cases h0 : c = 0
 ·simp only [if_pos h0]
  rw [if_pos (show (c : Int) = 0 by omega), fail_none _ _ _ (by decide), Option.bind_some]
  simp only [frame_section.j0]
  rw [uint_some _ _ _ _ (by omega), Option.bind_some]
  unfold cursor_Cursor_Err.f
  rw [if_neg (by simp), Option.bind_some, if_neg (by simp)]
  simp only [frame_section.j1]
  rw [if_neg (by simp)]
  simp only [frame_section.j2]
  rw [show (some ((some (4 : Int)).getD 0)) = some 4 from rfl, bytes_some, Option.bind_some]
  simp only [bytes_some, Option.bind_some, get_empty, if_neg Bool.false_ne_true, fail_some]
  exact ⟨_, _, _, rfl⟩
 ·simp only [if_neg h0]
  rw [if_neg (show ¬ (c : Int) = 0 by omega)]
  simp only [frame_section.j0]
  rw [uint_none b hb (p + 1) (by omega) _ (by omega), Option.bind_some]
  unfold uintE
  cases hg : gv 0 0 ((bs b).drop (p + 1)) with
  | error e =>
   have he : e ≠ 0 := by rcases gv_error _ _ _ _ hg with h | h <;> rw [h] <;> decide
   simp only
   unfold cursor_Cursor_Err.f
   rw [if_neg (by simp), Option.bind_some, if_neg (by simpa using he)]
   simp only [frame_section.j1]
   rw [if_neg (by simp)]
   simp only [frame_section.j2]
   rw [show (some ((some e).getD 0)) = some e from rfl, bytes_some, Option.bind_some]
   simp only [bytes_some, Option.bind_some, get_empty, if_neg Bool.false_ne_true, fail_some]
   exact ⟨_, _, _, rfl⟩
  | ok x =>
   obtain ⟨n, q⟩ := x
   obtain ⟨t, ht, hq⟩ := gv_suffix _ _ _ _ _ hg
   rw [List.length_drop, bs_length] at ht
   rw [List.drop_drop] at hq
   have hql : q.length = b.size - (p + 1 + (t + 1)) := by rw [hq, List.length_drop, bs_length]
   by_cases hn : 16777216 < n
   ·simp only [if_pos hn]
    unfold cursor_Cursor_Err.f
    rw [if_neg (by simp), Option.bind_some, if_neg (by simp)]
    simp only [frame_section.j1]
    rw [if_neg (by simp)]
    simp only [frame_section.j2]
    rw [show (some ((some (19 : Int)).getD 0)) = some 19 from rfl, bytes_some, Option.bind_some]
    simp only [bytes_some, Option.bind_some, get_empty, if_neg Bool.false_ne_true, fail_some]
    exact ⟨_, _, _, rfl⟩
   ·simp only [if_neg hn]
    have hz : b.size - q.length = p + 1 + (t + 1) := by omega
    rw [hz]
    unfold cursor_Cursor_Err.f
    rw [if_pos hnone, Option.bind_some, if_pos rfl, left_eq b hb _ (by omega), Option.bind_some]
    simp only
    rw [wrap_id (by omega) (by omega)]
    simp only [frame_section.j1]
    by_cases hl : q.length < n + 4
    ·rw [show decide (((b.size - (p + 1 + (t + 1)) : Nat) : Int) < (n : Int) + 4) = true from decide_eq_true (by omega), if_pos rfl, if_pos hl, fail_none _ _ _ (by decide), Option.bind_some]
     simp only [frame_section.j2]
     rw [bytes_some, Option.bind_some]
     simp only [bytes_some, Option.bind_some, get_empty, if_neg Bool.false_ne_true, fail_some]
     exact ⟨_, _, _, rfl⟩
    ·rw [show decide (((b.size - (p + 1 + (t + 1)) : Nat) : Int) < (n : Int) + 4) = false from decide_eq_false (by omega), if_neg Bool.false_ne_true]
     simp only [if_neg hl]
     simp only [frame_section.j2]
     rw [bytes_ok b hb _ (by omega) n (by omega), Option.bind_some, show (4 : Int) = ((4 : Nat) : Int) from rfl]
     simp only
     rw [bytes_ok b hb _ (by omega) 4 (by omega), Option.bind_some, ← hq]
     simp only
     have hqlt : ∀ c ∈ q, c < 256 := by rw [hq]; exact drop_lt (bs_lt b) _
     have hdd : List.drop (p + 1 + (t + 1) + n) (bs b) = q.drop n := by rw [hq, List.drop_drop]
     rw [hdd]
     obtain ⟨m, hm, hmi⟩ := crcGet_mkB ((q.drop n).take 4) (by rw [List.length_take, List.length_drop]; omega) (take_lt (drop_lt hqlt n) 4) (sumN (q.take n)) (sumN_lt _)
     rw [hm, Option.bind_some, if_pos rfl, sum_eq _ (by rw [mkB_size, List.length_take]; omega), Option.bind_some, bs_mkB (take_lt hqlt n)]
     by_cases hs : (q.drop n).take 4 = le4N (sumN (q.take n))
     ·simp only [if_pos hs, if_pos (hmi.2 hs)]
      refine ⟨?_, ⟨p + 1 + (t + 1) + (n + 4), by rw [hq, List.drop_drop], by omega, by omega⟩⟩
      rw [List.length_drop, show b.size - (q.length - (n + 4)) = p + 1 + (t + 1) + n + 4 by omega]
     ·simp only [if_neg hs, if_neg (fun h => hs (hmi.1 h))]
      rw [fail_none _ _ _ (by decide), Option.bind_some]
      exact ⟨_, _, _, rfl⟩
end
theorem getL (v : Int) (b : ByteArray) (hb : b.size ≤ 140737488355328) : ∀ (m k p : Nat) (acc : List S52), p ≤ b.size → b.size - p ≤ m → 2 * b.size + 24 + 2 * m < k → acc.length ≤ 8 →
  frame_Get.l0 k v acc b (p : Int) none = some (match secsE m acc ((bs b).drop p) with | .error e => (0, [], e) | .ok l => (v, l, 0)) := by
 intro m
 induction m with
 | zero =>
  intro k p acc hp hm hk ha
  obtain ⟨k, rfl⟩ : ∃ m, k = m + 2 := ⟨k - 2, by omega⟩
  simp only [frame_Get.l0]
  have herr : cursor_Cursor_Err.f b (p : Int) none = some (0, b, (p : Int), none) := by
   unfold cursor_Cursor_Err.f
   rw [if_pos hnone]
  rw [herr, Option.bind_some, if_pos rfl, left_eq b hb p hp, Option.bind_some]
  simp only [frame_Get.j3, secsE]
  rw [show decide (((b.size - p : Nat) : Int) > 0) = false from decide_eq_false (by omega), if_neg Bool.false_ne_true, herr, Option.bind_some, if_pos rfl]
 | succ m ih =>
  intro k p acc hp hm hk ha
  obtain ⟨k, rfl⟩ : ∃ m, k = m + 2 := ⟨k - 2, by omega⟩
  have herr : cursor_Cursor_Err.f b (p : Int) none = some (0, b, (p : Int), none) := by
   unfold cursor_Cursor_Err.f
   rw [if_pos hnone]
  have hle : ((bs b).drop p = []) ↔ p = b.size := by
   rw [List.drop_eq_nil_iff, bs_length]; omega
  simp only [frame_Get.l0]
  rw [herr, Option.bind_some, if_pos rfl, left_eq b hb p hp, Option.bind_some]
  simp only [frame_Get.j3, secsE]
  by_cases hlt : p < b.size
  ·rw [show decide (((b.size - p : Nat) : Int) > 0) = true from decide_eq_true (by omega), if_pos rfl]
   simp only [if_neg (show ¬ (bs b).drop p = [] from fun h => by have := hle.1 h; omega)]
   by_cases h8 : acc.length = 8
   ·simp only [if_pos h8]
    rw [if_pos (by omega)]
   ·simp only [if_neg h8]
    rw [if_neg (by omega)]
    have hs := section_eq b hb p hp k (by omega) hlt
    cases hse : secE ((bs b).drop p) with
    | error e =>
     rw [hse] at hs
     obtain ⟨i, x, t, hf⟩ := hs
     have he := secE_error _ _ hse (fun h => by have := hle.1 h; omega)
     obtain ⟨k, rfl⟩ : ∃ m, k = m + 2 := ⟨k - 2, by omega⟩
     rw [hf, Option.bind_some, if_pos (by omega)]
     simp only [frame_Get.l0]
     have herr2 : cursor_Cursor_Err.f b t (some e) = some (e, b, t, some e) := by
      unfold cursor_Cursor_Err.f
      rw [if_neg (by simp)]
      rfl
     rw [herr2, Option.bind_some, if_neg he]
     simp only [frame_Get.j3]
     rw [if_neg Bool.false_ne_true, herr2, Option.bind_some, if_neg he]
    | ok x =>
     obtain ⟨s, r⟩ := x
     rw [hse] at hs
     obtain ⟨hf, q, hr, hpq, hq⟩ := hs
     rw [hf, Option.bind_some, if_pos (by omega)]
     simp only
     have hrl : b.size - r.length = q := by rw [hr, List.length_drop, bs_length]; omega
     rw [hrl, ih k q (acc ++ [s]) hq (by omega) (by omega) (by simp; omega), ← hr]
  ·rw [show decide (((b.size - p : Nat) : Int) > 0) = false from decide_eq_false (by omega), if_neg Bool.false_ne_true, herr, Option.bind_some, if_pos rfl]
   simp only [if_pos (hle.2 (by omega))]
theorem cutPrefix_yes (a b : ByteArray) (h : bs a <+: bs b) : strings_CutPrefix.f b a = some (mkB ((bs b).drop a.size), true) := by
 have hs : a.size ≤ b.size := by have := h.length_le; rwa [bs_length, bs_length] at this
 unfold strings_CutPrefix.f stringslite_CutPrefix.f stringslite_HasPrefix.f
 have he : b.extract 0 a.size = a := by
  rw [extract_mkB, List.drop_zero, ← bs_length a, ← List.prefix_iff_eq_take.1 h, mkB_bs]
 rw [if_pos (by omega), if_pos (by omega), if_pos (by omega), Int.toNat_natCast, he, Option.bind_some, if_pos (by simp), if_pos (by omega), if_pos (by omega), Option.bind_some, extract_mkB, ← bs_length b, List.take_length]
theorem cutPrefix_no (a b : ByteArray) (h : ¬ bs a <+: bs b) : strings_CutPrefix.f b a = some (b, false) := by
 unfold strings_CutPrefix.f stringslite_CutPrefix.f stringslite_HasPrefix.f
 by_cases hs : a.size ≤ b.size
 ·have he : ¬ (b.extract 0 a.size).toList = a.toList := by
   intro hh
   rw [ByteArray.toList_eq, ByteArray.toList_eq] at hh
   have hh2 : b.extract 0 a.size = a := ByteArray.ext (Array.ext' hh)
   apply h
   rw [← hh2, bs_extract, List.drop_zero]
   exact List.take_prefix _ _
  rw [if_pos (by omega), if_pos (by omega), if_pos (by omega), Int.toNat_natCast, Option.bind_some, if_neg (by simpa using he), Option.bind_some]
 ·rw [if_neg (by omega), Option.bind_some, if_neg (by simp), Option.bind_some]
def getM (magic b : ByteArray) : Except Int (Nat × List S52) := if magic.size = 4 ∧ bs magic <+: bs b then getE ((bs b).drop 4) else .error 6
theorem frameGet_eq (k : Nat) (magic b : ByteArray) (hb : b.size ≤ 140737488355328) (hk : 4 * b.size + 40 < k) : frame_Get.f k magic b = some (tellG (getM magic b)) := by
 obtain ⟨k, rfl⟩ : ∃ m, k = m + 2 := ⟨k - 2, by omega⟩
 unfold frame_Get.f getM
 by_cases hp : bs magic <+: bs b
 ·rw [cutPrefix_yes _ _ hp, Option.bind_some]
  by_cases h4 : magic.size = 4
  ·rw [if_pos (by omega), if_pos ⟨h4, hp⟩, h4]
   simp only [frame_Get.j0]
   rw [if_neg (by simp)]
   have hlt := drop_lt (bs_lt b) 4
   have hrs : (mkB ((bs b).drop 4)).size = b.size - 4 := by rw [mkB_size, List.length_drop, bs_length]
   have hbr := bs_mkB hlt
   generalize mkB ((bs b).drop 4) = r at *
   unfold cursor_New.f
   rw [Option.bind_some]
   simp only
   by_cases h0 : r.size = 0
   ·have hb0 : cursor_Cursor_Byte.f r 0 none = some (0, r, 0, some 2) := byte_cut r (by omega) 0 (by omega) (by omega)
    rw [hb0, Option.bind_some]
    simp only
    have hnil : (bs b).drop 4 = [] := by
     rw [← hbr]; apply List.eq_nil_of_length_eq_zero; rw [bs_length, h0]
    rw [wrap_id (by omega) (by omega), if_pos rfl, fail_some, Option.bind_some, hnil]
    simp only [frame_Get.j1]
    obtain ⟨k, rfl⟩ : ∃ m, k = m + 2 := ⟨k - 2, by omega⟩
    simp only [frame_Get.l0]
    have herr2 : ∀ t, cursor_Cursor_Err.f r t (some 2) = some (2, r, t, some 2) := by
     intro t
     unfold cursor_Cursor_Err.f
     rw [if_neg (by simp)]
     rfl
    rw [herr2, Option.bind_some, if_neg (show ¬ (2 : Int) = 0 by decide)]
    simp only [frame_Get.j3]
    rw [if_neg Bool.false_ne_true, herr2, Option.bind_some, if_neg (show ¬ (2 : Int) = 0 by decide)]
    rfl
   ·obtain ⟨c, hc, hd, hby⟩ := byte_ok r (by omega) 0 (by omega) (by omega)
    have hby0 : cursor_Cursor_Byte.f r 0 none = some ((c : Int), r, 1, none) := hby
    rw [hby0, Option.bind_some]
    simp only
    rw [wrap_id (by omega) (by omega)]
    have hd2 : (bs b).drop 4 = c :: (bs r).drop 1 := by rw [← hbr]; exact hd
    rw [hd2]
    by_cases hz : c = 0
    ·rw [if_pos (by omega), fail_none _ _ _ (by decide), Option.bind_some]
     simp only [frame_Get.j1, getE, if_pos hz]
     obtain ⟨k, rfl⟩ : ∃ m, k = m + 2 := ⟨k - 2, by omega⟩
     simp only [frame_Get.l0]
     have herr2 : ∀ t, cursor_Cursor_Err.f r t (some 7) = some (7, r, t, some 7) := by
      intro t
      unfold cursor_Cursor_Err.f
      rw [if_neg (by simp)]
      rfl
     rw [herr2, Option.bind_some, if_neg (show ¬ (7 : Int) = 0 by decide)]
     simp only [frame_Get.j3]
     rw [if_neg Bool.false_ne_true, herr2, Option.bind_some, if_neg (show ¬ (7 : Int) = 0 by decide)]
     rfl
    ·rw [if_neg (by omega)]
     simp only [frame_Get.j1, getE, if_neg hz]
     have hgl := getL (c : Int) r (by omega) (r.size - 1) k 1 [] (by omega) (by omega) (by omega) (by simp)
     have hl1 : ((bs r).drop 1).length = r.size - 1 := by rw [List.length_drop, bs_length]
     rw [hl1]
     refine Eq.trans hgl ?_
     cases secsE (r.size - 1) [] ((bs r).drop 1) <;> rfl
  ·rw [if_neg (by omega)]
   simp only [if_neg (show ¬ (magic.size = 4 ∧ bs magic <+: bs b) from fun h => h4 h.1)]
   simp only [frame_Get.j0]
   rw [if_pos trivial]
   rfl
 ·rw [cutPrefix_no _ _ hp, Option.bind_some]
  simp only [if_neg (show ¬ (magic.size = 4 ∧ bs magic <+: bs b) from fun h => hp h.2)]
  have hj : frame_Get.j0 (k + 2) b true = some (tellG (.error 6)) := by
   simp only [frame_Get.j0]
   rw [if_pos trivial]
   rfl
  split
  ·exact hj
  ·exact hj
end Go.Proofs.Ytdjpelcdijpihaa.PrintF
