/- A part of the proof of the claim: what it uses of the text PurePatchPuts1. -/
import Derived.Test.YtdjpelcdijpihaaXPurePatchPuts0
import Derived.Test.YtdjpelcdijpihaaXHandRefPatch
import Derived.Test.YtdjpelcdijpihaaXFrameRefPutM
namespace Go.Proofs.Ytdjpelcdijpihaa.Pure
open Go.RowKit Go.Proofs.Ytdjpelcdijpihaa.Print Go.Proofs.Ytdjpelcdijpihaa.PrintF Go.Proofs.YtdjpelcdijpihaaW.PrintWords Go.Proofs.YtdjpelcdijpihaaW.PrintLast
theorem flat_len {α : Type} (f : α → List UInt8) (B : Nat) : ∀ (l : List α) (_ : ∀ s ∈ l, (f s).length ≤ B) (n : Nat) (_ : l.length ≤ n), (l.flatMap f).length ≤ B * n
 | [], _, n, _ => by simp
 | s :: l, h, n + 1, hn => by
  have h1 := h s (by simp)
  have h2 := flat_len f B l (fun x hx => h x (by simp [hx])) n (by simpa using hn)
  rw [List.flatMap_cons, List.length_append, Nat.mul_add, Nat.mul_one]
  omega
 | s :: l, h, 0, hn => by simp at hn
theorem sgn_len (v : Int) : (sgnB v).length ≤ 10 := numB_len _
theorem nodeB_small {x : S105} (h : smallN x) : (nodeB x).length ≤ 56000 := by
 have h1 := flat_len sgnB 10 x.f1 (fun v _ => sgn_len v) 100 h.1
 have h2 := flat_len txtB 510 x.f2 (fun s hs => by have := (txt_len s).2; have := h.2.2.2 s hs; omega) 100 h.2.1
 have h3 := flat_len numB 10 x.f3 (fun v _ => numB_len v) 300 h.2.2.1
 have a1 := numB_len x.f0
 have a2 := numB_len (x.f1.length : Int)
 have a3 := numB_len (x.f2.length : Int)
 have a4 := numB_len (x.f3.length : Int)
 unfold nodeB
 simp only [List.length_append]
 omega
theorem setB_small {s : S127} (h : s.f3.size ≤ 500) : (setB s).length ≤ 530 := by
 have a1 := numB_len 1
 have a0 := numB_len 0
 have a2 := numB_len s.f1
 have a3 := (txt_len s.f3).2
 have a4 := sgn_len s.f2
 unfold setB
 split
 ·simp only [List.length_append]; omega
 ·simp only [List.length_append]; omega
theorem editB_small (e : S138) : (editB e).length ≤ 20 := by
 have a1 := numB_len e.f0
 have a2 := numB_len e.f1
 unfold editB
 rw [List.length_append]
 omega
theorem opB_small {o : S107} (h : smallO o) : (opB o).length ≤ 60000 := by
 have h1 := nodeB_small h.1
 have h2 := flat_len setB 530 o.f2 (fun s hs => setB_small (h.2.2.2 s hs)) 50 h.2.1
 have h3 := flat_len editB 20 o.f3 (fun e _ => editB_small e) 100 h.2.2.1
 have a1 := numB_len o.f0
 have a2 := numB_len o.f1
 have a3 := numB_len (o.f2.length : Int)
 have a4 := numB_len (o.f3.length : Int)
 unfold opB
 rw [List.length_append]
 split
 ·omega
 ·rw [List.length_append]
  split
  ·unfold editsB
   simp only [List.length_append]
   omega
  ·simp only [List.length_nil]; omega
theorem opsB_small {l : List S107} (hl : l.length ≤ 60) (h : ∀ o ∈ l, smallO o) : (opsB l).length ≤ 3700000 := by
 have h1 := flat_len opB 60000 l (fun o ho => opB_small (h o ho)) 60 hl
 have a1 := numB_len (l.length : Int)
 unfold opsB
 rw [List.length_append]
 omega
theorem firstP_size (sum len way : Int) : (firstP sum len way).size = 9 := by
 unfold firstP
 rw [ByteArray.size_append, ByteArray.size_append, strOfNums_size, strOfNums_size, strOfNums_size]
 rfl
theorem tail_same (sum len way : Int) (p : ByteArray) (hp : p.size ≤ 16000000) : tailR sum len way p = tailP sum len way p := by
 unfold tailR tailP
 refine refFramePut_eqM (p.size + 9) (by omega) _ (by omega) _ _ _ (fun s hs => ?_)
 simp only [List.mem_cons, List.not_mem_nil, or_false] at hs
 rcases hs with rfl | rfl
 ·simp only [firstP_size]; omega
 ·simp only; omega
theorem tail_some (sum len way : Int) (p : ByteArray) : ∃ r, tailP sum len way p = some r := ⟨_, rfl⟩
theorem put_same (sum len way : Int) (ops : List S107) (file : ByteArray) (hs : 0 ≤ sum ∧ sum ≤ 4294967295) (hok : ops.all okOpB = true) (hl : ops.length ≤ 60) (hsm : ∀ o ∈ ops, smallO o) (hf : file.size ≤ 1000) :
  ∃ r, patch_Put.f sum len way ops file = some r ∧ dioramaref24_Put.f sum len way ops file = some r := by
 have hb := opsB_small hl hsm
 unfold patch_Put.f dioramaref24_Put.f
 by_cases h1 : way < 0 ∨ 2 < way ∨ len < 0 ∨ 4294967295 < len
 ·exact ⟨_, by rw [if_pos h1], by rw [if_pos h1]⟩
 rw [if_neg h1, if_neg h1]
 by_cases h2 : 0 < ops.length ∧ way ≠ 1
 ·exact ⟨_, by rw [if_pos h2], by rw [if_pos h2]⟩
 rw [if_neg h2, if_neg h2]
 by_cases h3 : file.toList.isEmpty = false ∧ way ≠ 2
 ·exact ⟨_, by rw [if_pos h3], by rw [if_pos h3]⟩
 rw [if_neg h3, if_neg h3, if_neg (show ¬ (sum < 0 ∨ 4294967295 < sum) by omega)]
 by_cases h4 : way = 1
 ·rw [if_pos h4, if_pos h4, if_neg (show ¬ 140737488355328 < (opsB ops).length + 10 by omega), if_neg (show ¬ (140737488355328 < (opsB ops).length ∨ ops.all okOpB = false) by rw [hok]; intro h; rcases h with h | h; omega; cases h), opsNo_eq hl hsm]
  cases hr : ops.all refOk with
  | false => exact ⟨_, by rw [Bool.not_false, if_pos rfl], by rw [if_neg Bool.false_ne_true]⟩
  | true =>
   obtain ⟨r, hr2⟩ := tail_some sum len 1 (strB (opsB ops))
   exact ⟨r, by rw [Bool.not_true, if_neg Bool.false_ne_true]; exact hr2, by rw [if_pos rfl, tail_same _ _ _ _ (by rw [strB_size]; omega)]; exact hr2⟩
 ·obtain ⟨r, hr2⟩ := tail_some sum len way file
  exact ⟨r, by rw [if_neg h4]; exact hr2, by rw [if_neg h4, tail_same _ _ _ _ (by omega)]; exact hr2⟩
end Go.Proofs.Ytdjpelcdijpihaa.Pure
