/- A part of the proof of the claim: what it uses of the text PatchPlain. -/
import Derived.Test.YtdjpelcdijpihaaZHandPatchGet
import Derived.Test.YtdjpelcdijpihaaZHandPut
import Derived.Test.YtdjpelcdijpihaaZFrameCodec
import Derived.Test.YtdjpelcdijpihaaZCrcBytes
namespace Go.Proofs.Ytdjpelcdijpihaa.Pure
open Go.RowKit Go.Proofs.Ytdjpelcdijpihaa.Print Go.Proofs.Ytdjpelcdijpihaa.PrintF Go.Proofs.YtdjpelcdijpihaaW.PrintWords Go.Proofs.YtdjpelcdijpihaaW.PrintLast
def diop : ByteArray := ⟨#[68, 73, 79, 80]⟩
def secs (sum len way : Int) (p : ByteArray) : List S52 := [⟨1, firstP sum len way⟩, ⟨2, p⟩]
def fileP (sum len way : Int) (p : ByteArray) : ByteArray := mkB (bs diop ++ 2 :: allB (secs sum len way p))
theorem first_size (sum len way : Int) : (firstP sum len way).size = 9 := by
 unfold firstP
 rw [ByteArray.size_append, ByteArray.size_append, strOfNums_size, strOfNums_size, strOfNums_size]
 rfl
theorem secs_good (sum len way : Int) {p : ByteArray} (hp : p.size ≤ 16777216) : ∀ s ∈ secs sum len way p, goodS s := by
 intro s hs
 simp only [secs, List.mem_cons, List.not_mem_nil, or_false] at hs
 rcases hs with rfl | rfl
 ·exact ⟨(by decide : (1 : Int) ≤ 1), (by decide : (1 : Int) ≤ 255), by show (firstP sum len way).size ≤ 16777216; rw [first_size]; decide⟩
 ·exact ⟨(by decide : (1 : Int) ≤ 2), (by decide : (2 : Int) ≤ 255), hp⟩
theorem tail_file (sum len way : Int) {p : ByteArray} (hp : p.size ≤ 16777216) : tailP sum len way p = some (fileP sum len way p, 0) := by
 unfold tailP frame_Put.f fileP
 rw [if_neg (show ¬ (⟨#[68, 73, 79, 80]⟩ : ByteArray).size ≠ 4 by decide), if_neg (by decide), if_neg (show ¬ 8 < [(⟨1, firstP sum len way⟩ : S52), ⟨2, p⟩].length by simp),
  show [(⟨1, firstP sum len way⟩ : S52), ⟨2, p⟩] = secs sum len way p from rfl, putL_all _ _ (secs_good sum len way hp)]
 congr 2
theorem first_of (f : ByteArray) (h : f.size = 9) : ∃ sum len, crc_Get.f (f.extract 0 4) = some (sum, true) ∧ crc_Get.f (f.extract 4 8) = some (len, true) ∧ (0 ≤ sum ∧ sum ≤ 4294967295) ∧ (0 ≤ len ∧ len ≤ 4294967295) ∧ f = firstP sum len (bt f 8) := by
 have z1 : (f.extract 0 4).size = 4 := by rw [ByteArray.size_extract]; omega
 have z2 : (f.extract 4 8).size = 4 := by rw [ByteArray.size_extract]; omega
 refine ⟨_, _, get_eq _ z1, get_eq _ z2, ?_, ?_, ?_⟩
 ·have r0 := bt_range (f.extract 0 4) 0; have r1 := bt_range (f.extract 0 4) 1; have r2 := bt_range (f.extract 0 4) 2; have r3 := bt_range (f.extract 0 4) 3; omega
 ·have r0 := bt_range (f.extract 4 8) 0; have r1 := bt_range (f.extract 4 8) 1; have r2 := bt_range (f.extract 4 8) 2; have r3 := bt_range (f.extract 4 8) 3; omega
 ·unfold firstP
  rw [put_get _ z1, put_get _ z2]
  have hb : ∀ x y : ByteArray, bs x = bs y → x = y := fun x y hxy => by rw [← mkB_bs x, ← mkB_bs y, hxy]
  apply hb
  obtain ⟨c, hc, h1, h2⟩ := bt_drop f 8 (by omega)
  have e : ∀ x y : ByteArray, bs (x ++ y) = bs x ++ bs y := fun x y => by simp [bs]
  have e9 : (bs f).drop 9 = [] := List.drop_of_length_le (by rw [bs_length]; omega)
  rw [e, e, bs_extract, bs_extract, show (8 : Int) = ((8 : Nat) : Int) from rfl, h1]
  have e1 : bs (strOfNums [((c : Nat) : Int)]) = [c] := by simp [bs, strOfNums]; omega
  rw [e1, List.drop_zero]
  have e2 : (bs f).take 4 ++ ((bs f).take 8).drop 4 = (bs f).take 8 := by
   rw [show (bs f).take 4 = ((bs f).take 8).take 4 by rw [List.take_take]; rfl, List.take_append_drop]
  rw [e2]
  have e3 : (bs f).drop 8 = [c] := by rw [h2, e9]
  rw [← e3, List.take_append_drop]
end Go.Proofs.Ytdjpelcdijpihaa.Pure
