/- The law FrameBurst's function answers true at any sections, any place and any mask. Conditions: the arguments read as sections; the mask is a uint32. -/
import Derived.Test.YtdjpelcdijpihaaHandBurst
namespace Go.Proofs.Ytdjpelcdijpihaa.Pure
open Go.RowKit Go.Proofs.Ytdjpelcdijpihaa.Print Go.Proofs.Ytdjpelcdijpihaa.PrintF Go.Proofs.YtdjpelcdijpihaaW.PrintWords Go.Proofs.YtdjpelcdijpihaaW.PrintLast Go.Proofs.CrcMath
theorem frame_awake0 : dioramalaw04_awake.f 100 = some true := by kernel_rfl
theorem framePut_good (l : List S52) (hg : ∀ s ∈ l, goodS s) (hl : l.length ≤ 8) : frame_Put.f dior 2 l = some (mkB (fileB 2 l), 0) := by
  unfold frame_Put.f
  rw [if_neg (show ¬ dior.size ≠ 4 by decide), if_neg (by decide), if_neg (by omega), putL_all _ _ hg]
  unfold mkB fileB
  congr 4
theorem mkB_append (a b : List Nat) : mkB a ++ mkB b = mkB (a ++ b) := by
  apply ByteArray.ext
  apply Array.ext'
  simp [mkB, u8s_append]
theorem FrameBurst (A : Option Addr) (c : Nat) (l : List S52) (x y m : Int) (hm0 : 0 ≤ m) (hm1 : m ≤ 4294967295) (w : World) (hr : Kd.C k52 w A l.length l) (hc : l.length ≤ c) :
    Calls Try.prog 12 #[.slice A l.length c, .agg #[.int .i64 x, .int .i64 y], .int .u32 m] w fun e w' => e = .returned (.bool true) ∧ Below w.heap.size w w' := by
  have ha := frame_awake0
  obtain ⟨r, hg, hs⟩ := great_eq 100 (by omega) l
  cases r with
  | true => exact burst_great A c l x y m w hr hc ha hg
  | false =>
    obtain ⟨hl20, hp⟩ := hs rfl
    by_cases hx : x < 0
    · exact burst_x0 A c l x y m w hr hc ha hg hx
    by_cases hx2 : (l.length : Int) ≤ x
    · exact burst_xl A c l x y m w hr hc ha hg (by omega) hx2
    by_cases hy : y < 0
    · exact burst_y0 A c l x y m w hr hc ha hg (by omega) (by omega) hy
    obtain ⟨i, rfl⟩ : ∃ i : Nat, x = i := ⟨x.toNat, by omega⟩
    obtain ⟨f, rfl⟩ : ∃ f : Nat, y = f := ⟨y.toNat, by omega⟩
    obtain ⟨q, rfl⟩ : ∃ q : Nat, m = q := ⟨m.toNat, by omega⟩
    have hi : i < l.length := by omega
    obtain ⟨ad, rfl, _⟩ := hr.2.2 (by omega)
    have hat : At l (i : Int) l[i].f1 := ⟨by omega, hi, rfl⟩
    have hps : l[i].f1.size ≤ 1000 := hp _ (List.getElem_mem hi)
    by_cases hy2 : 8 * (l[i].f1.size : Int) ≤ f
    · exact burst_yl ad c l _ _ _ w hr hc (by omega) (by omega) _ hat hps ha hg (by omega) hy2
    obtain ⟨b, e, hput, he1, he0⟩ := framePut_dior 2 l
    by_cases he : e = 0
    · obtain ⟨_, _, h3, h4, rfl⟩ := he0 he
      have hlen := allB_small l hp
      have htk : ∀ s ∈ l.take i, goodS s := fun s hs => h4 s (List.mem_of_mem_take hs)
      have htk1 : ∀ s ∈ l.take (i + 1), goodS s := fun s hs => h4 s (List.mem_of_mem_take hs)
      have hhd : dioramaref04_Put.f 5000 dior 2 (l.take ((i : Int) + 1).toNat) = some (mkB (fileB 2 (l.take (i + 1))), 0) := by
        rw [show ((i : Int) + 1).toNat = i + 1 by omega, refFramePut_eq 5000 (by omega) _ _ _ (fun s hs => hp s (List.mem_of_mem_take hs)), framePut_good _ htk1 (by rw [List.length_take]; omega)]
      have hfl := flip_eq l[i].f1 f q hps (by omega) (by omega)
      obtain ⟨pre, hpre⟩ : ∃ pre, pre = fileB 2 (l.take i) ++ headB l[i] := ⟨_, rfl⟩
      obtain ⟨post, hpost⟩ : ∃ post, post = le4N (sumN (bs l[i].f1)) ++ allB (l.drop (i + 1)) := ⟨_, rfl⟩
      have hbl : (bs l[i].f1).length = l[i].f1.size := bs_length _
      have hfile : fileB 2 l = pre ++ (bs l[i].f1 ++ post) := by
        rw [hpre, hpost]
        unfold fileB
        rw [allB_split i hi]
        simp only [List.append_assoc]
      have hupto : (fileB 2 (l.take (i + 1))).length = pre.length + 4 + l[i].f1.size := by
        rw [hpre]
        unfold fileB
        rw [allB_upto i hi]
        simp only [List.length_append, le4N_len, hbl]
        omega
      have hflt : ∀ c ∈ fileB 2 l, c < 256 := fileB_lt (by omega) h4
      have hfsz : (fileB 2 l).length = 5 + (allB l).length := by simp [fileB]; omega
      have hnl : (flN (bs l[i].f1) f q 32).length = l[i].f1.size := by rw [flN_length, hbl]
      have hx1 : (mkB (fileB 2 l)).extract 0 pre.length = mkB pre := by
        rw [extract_mkB, bs_mkB hflt, hfile, List.drop_zero, List.take_left]
      have hx2 : (mkB (fileB 2 l)).extract (pre.length + l[i].f1.size) (mkB (fileB 2 l)).size = mkB post := by
        rw [extract_mkB, bs_mkB hflt, mkB_size, List.take_length, hfile, ← List.append_assoc, show pre.length + l[i].f1.size = (pre ++ bs l[i].f1).length by rw [List.length_append, hbl], List.drop_left]
      have hget : frame_Get.f 100000 dior (((mkB (fileB 2 l)).extract 0 pre.length ++ mkB (flN (bs l[i].f1) f q 32)) ++ (mkB (fileB 2 l)).extract (pre.length + l[i].f1.size) (mkB (fileB 2 l)).size)
          = some (tellG (getM dior (mkB (pre ++ (flN (bs l[i].f1) f q 32 ++ post))))) := by
        have hsz : (mkB (pre ++ (flN (bs l[i].f1) f q 32 ++ post))).size = (fileB 2 l).length := by
          rw [mkB_size, hfile]; simp only [List.length_append, hnl, hbl]
        rw [hx1, hx2, mkB_append, mkB_append, List.append_assoc]
        exact frameGet_eq 100000 _ _ (by rw [hsz]; omega) (by rw [hsz]; omega)
      obtain ⟨tg, htg⟩ : ∃ tg, tg = tellG (getM dior (mkB (pre ++ (flN (bs l[i].f1) f q 32 ++ post)))) := ⟨_, rfl⟩
      rw [← htg] at hget
      have hres : (mkB (flN (bs l[i].f1) f q 32) = l[i].f1 ∧ tg.2.2 = 0) ∨ (mkB (flN (bs l[i].f1) f q 32) ≠ l[i].f1 ∧ tg.2.2 = 5) := by
        by_cases hne : flN (bs l[i].f1) f q 32 = bs l[i].f1
        · left
          rw [htg, hne, ← hfile, getM_file ⟨by omega, by omega⟩ h4 h3]
          exact ⟨mkB_bs _, rfl⟩
        · right
          refine ⟨fun h => hne ?_, ?_⟩
          · have h2 := congrArg bs h
            rwa [bs_mkB (flN_lt (bs_lt _) f q 32)] at h2
          · have := getM_burst h4 h3 i hi f q (by omega) hne
            rw [htg, hpre, hpost, List.append_assoc, this]
            rfl
      exact burst_good ad c l _ _ _ w hr hc (by omega) (by omega) _ hat hps ha hg (by omega) (by omega) _ _ hput (by omega) he _ _ hhd _ hfl pre.length (pre.length + l[i].f1.size)
        (by rw [mkB_size]; exact hupto) rfl (by rw [show (2 : Int).toNat = 2 from rfl, mkB_size, hfile]; simp only [List.length_append, hbl]; omega) (by rw [mkB_size, hnl]; exact hps)
        (by rw [show (2 : Int).toNat = 2 from rfl, mkB_size]; omega) tg.1 tg.2.1 tg.2.2 hget hres
    · obtain rfl := he1 he
      exact burst_bad ad c l _ _ _ w hr hc (by omega) (by omega) _ hat hps ha hg (by omega) (by omega) _ hput (by omega) he
end Go.Proofs.Ytdjpelcdijpihaa.Pure
