/- A part of the proof of the claim: what it uses of the text PatchPlain. -/
import Derived.Test.YtdjpelcdijpihaaYHandPatchGet
import Derived.Test.YtdjpelcdijpihaaYHandPut
import Derived.Test.YtdjpelcdijpihaaYFrameCodec
import Derived.Test.YtdjpelcdijpihaaYCrcBytes
namespace Go.Proofs.Ytdjpelcdijpihaa.Pure
open Go.RowKit Go.Proofs.Ytdjpelcdijpihaa.Print Go.Proofs.Ytdjpelcdijpihaa.PrintF Go.Proofs.YtdjpelcdijpihaaW.PrintWords Go.Proofs.YtdjpelcdijpihaaW.PrintLast
def diop : ByteArray := ⟨#[68, 73, 79, 80]⟩
def secs (sum len way : Int) (p : ByteArray) : List S52 := [⟨1, firstP sum len way⟩, ⟨2, p⟩]
def fileP (sum len way : Int) (p : ByteArray) : ByteArray := mkB (bs diop ++ 2 :: allB (secs sum len way p))
theorem first_size (sum len way : Int) : (firstP sum len way).size = 9 := by
 unfold firstP
 rw [ByteArray.size_append, ByteArray.size_append, strOfNums_size, strOfNums_size, strOfNums_size]
 rfl
theorem secs_good (sum len way : Int) {p : ByteArray} (hp : p.size ≤ 16777216) : ∀ s ∈ secs sum len way p, goodS s := by
 intro s hs
 simp only [secs, List.mem_cons, List.not_mem_nil, or_false] at hs
 rcases hs with rfl | rfl
 ·exact ⟨(by decide : (1 : Int) ≤ 1), (by decide : (1 : Int) ≤ 255), by show (firstP sum len way).size ≤ 16777216; rw [first_size]; decide⟩
 ·exact ⟨(by decide : (1 : Int) ≤ 2), (by decide : (2 : Int) ≤ 255), hp⟩
theorem allB_bytes : ∀ l : List S52, (∀ s ∈ l, goodS s) → ∀ c ∈ allB l, c < 256
 | [], _, c, hc => by simp [allB] at hc
 | s :: l, h, c, hc => by
  simp only [allB, List.mem_append] at hc
  rcases hc with hc | hc
  ·exact secB_lt (h s (by simp)) c hc
  ·exact allB_bytes l (fun x hx => h x (by simp [hx])) c hc
theorem file_bytes {sum len way : Int} {p : ByteArray} (hp : p.size ≤ 16777216) : ∀ c ∈ bs diop ++ 2 :: allB (secs sum len way p), c < 256 := by
 intro c hc
 rcases List.mem_append.1 hc with hc | hc
 ·exact bs_lt _ c hc
 ·rcases List.mem_cons.1 hc with rfl | hc
  ·decide
  ·exact allB_bytes _ (secs_good sum len way hp) c hc
theorem tail_file (sum len way : Int) {p : ByteArray} (hp : p.size ≤ 16777216) : tailP sum len way p = some (fileP sum len way p, 0) := by
 unfold tailP frame_Put.f fileP
 rw [if_neg (show ¬ (⟨#[68, 73, 79, 80]⟩ : ByteArray).size ≠ 4 by decide), if_neg (by decide), if_neg (show ¬ 8 < [(⟨1, firstP sum len way⟩ : S52), ⟨2, p⟩].length by simp),
  show [(⟨1, firstP sum len way⟩ : S52), ⟨2, p⟩] = secs sum len way p from rfl, putL_all _ _ (secs_good sum len way hp)]
 congr 2
theorem get_file (sum len way : Int) {p : ByteArray} (hp : p.size ≤ 16777216) : getM diop (fileP sum len way p) = .ok (2, secs sum len way p) := by
 have hb : bs (fileP sum len way p) = bs diop ++ 2 :: allB (secs sum len way p) := bs_mkB (file_bytes hp)
 unfold getM
 rw [if_pos ⟨by decide, by rw [hb]; exact List.prefix_append _ _⟩, hb]
 have h4 : (bs diop ++ 2 :: allB (secs sum len way p)).drop 4 = 2 :: allB (secs sum len way p) := List.drop_left' (by decide)
 rw [h4]
 simp only [getE]
 rw [if_neg (by decide), secsE_put _ _ [] (secs_good sum len way hp) (allB_len _) (by simp [secs])]
 rfl
theorem ext_left (a b : ByteArray) (n : Nat) (h : a.size = n) : (a ++ b).extract 0 n = a := by
 rw [extract_mkB, List.drop_zero]
 have : bs (a ++ b) = bs a ++ bs b := by simp [bs]
 rw [this, ← h, ← bs_length a, List.take_left, mkB_bs]
theorem ext_mid (a b c : ByteArray) (n m : Nat) (h : a.size = n) (hm : n + b.size = m) : (a ++ b ++ c).extract n m = b := by
 rw [extract_mkB]
 have e : bs (a ++ b ++ c) = bs a ++ (bs b ++ bs c) := by simp [bs]
 have e1 : (bs a).length = n := by rw [bs_length, h]
 have e2 : (bs b).length = b.size := bs_length b
 rw [e, ← List.append_assoc, List.take_left' (by rw [List.length_append, e1, e2, hm]), ← e1, List.drop_left, mkB_bs]
theorem first_gets (sum len way : Int) (hs : 0 ≤ sum ∧ sum ≤ 4294967295) (hl : 0 ≤ len ∧ len ≤ 4294967295) (hw : 0 ≤ way ∧ way ≤ 255) :
  crc_Get.f ((firstP sum len way).extract 0 4) = some (sum, true) ∧ crc_Get.f ((firstP sum len way).extract 4 8) = some (len, true) ∧ bt (firstP sum len way) 8 = way := by
 have z1 : (strOfNums (le4 sum)).size = 4 := by rw [strOfNums_size]; rfl
 have z2 : (strOfNums (le4 len)).size = 4 := by rw [strOfNums_size]; rfl
 refine ⟨?_, ?_, ?_⟩
 ·unfold firstP
  rw [ByteArray.append_assoc, ext_left _ _ 4 z1, get_put sum hs]
 ·unfold firstP
  rw [ext_mid _ _ _ 4 8 z1 (by rw [z2]), get_put len hl]
 ·obtain ⟨c, hc, h1, h2⟩ := bt_drop (firstP sum len way) 8 (by rw [first_size]; decide)
  rw [show (8 : Int) = ((8 : Nat) : Int) from rfl, h1]
  have e : bs (firstP sum len way) = bs (strOfNums (le4 sum) ++ strOfNums (le4 len)) ++ bs (strOfNums [way]) := by simp [bs, firstP]
  have e8 : (bs (strOfNums (le4 sum) ++ strOfNums (le4 len))).length = 8 := by rw [bs_length, ByteArray.size_append, z1, z2]
  rw [e, List.drop_left' e8] at h2
  have e1 : bs (strOfNums [way]) = [way.toNat % 256] := by simp [bs, strOfNums]
  rw [e1] at h2
  have := (List.cons.inj h2).1
  omega
end Go.Proofs.Ytdjpelcdijpihaa.Pure
