/- The pure statement of the law FrameCut is true: cut off anywhere, a file is told to be wrong, or has fewer sections, all of them as they were. -/
import Derived.Test.YtdjpelcdijpihaaPrintF8
import Derived.Test.YtdjpelcdijpihaaFrameGreat
import Derived.Test.YtdjpelcdijpihaaPureFrameGets
namespace Go.Proofs.Ytdjpelcdijpihaa.Pure
open Go.RowKit Go.Proofs.Ytdjpelcdijpihaa.Print Go.Proofs.Ytdjpelcdijpihaa.PrintF Go.Proofs.YtdjpelcdijpihaaW.PrintWords Go.Proofs.YtdjpelcdijpihaaW.PrintLast
theorem gv_cut : ∀ (j i n x m : Nat), i + j = 9 → m < (vbN (j + 1) x).length → gv i n ((vbN (j + 1) x).take m) = .error 2 := by
  intro j
  induction j with
  | zero =>
    intro i n x m hij hm
    have h1 : (vbN (0 + 1) x).length ≤ 0 + 1 := vbN_len (0 + 1) x
    obtain rfl : m = 0 := by omega
    rfl
  | succ j ih =>
    intro i n x m hij hm
    cases m with
    | zero => rfl
    | succ m =>
      rw [vbN] at hm ⊢
      by_cases h1 : x < 128
      · rw [if_pos h1] at hm
        simp at hm
      · rw [if_neg h1] at hm ⊢
        simp only [List.length_cons] at hm
        rw [List.take_succ_cons, gv, if_neg (by omega), if_neg (by omega), ih (i + 1) _ (x / 128) m (by omega) (by omega)]
theorem secE_cut {s : S52} (h : goodS s) (m : Nat) (h0 : 0 < m) (hm : m < (secB s).length) : secE ((secB s).take m) = .error 2 := by
  have h1 := h.1
  have h3 := h.2.2
  obtain ⟨m, rfl⟩ : ∃ m', m = m' + 1 := ⟨m - 1, by omega⟩
  simp only [secB, List.length_cons] at hm
  simp only [secB, List.take_succ_cons, secE]
  rw [if_neg (by omega)]
  by_cases hv : m < (vb s.f1.size).length
  · rw [List.take_append_of_le_length (by omega), show gv 0 0 ((vb s.f1.size).take m) = .error 2 from gv_cut 9 0 0 s.f1.size m (by omega) hv]
  · rw [List.take_append, List.take_of_length_le (by omega), gv_put _ _ (by omega)]
    simp only
    have hlen : (bs s.f1).length = s.f1.size := bs_length _
    rw [if_neg (by omega), if_pos]
    simp only [List.length_append, le4N_len, hlen] at hm
    simp only [List.length_take, List.length_append, le4N_len, hlen]
    omega
theorem secsE_cut : ∀ (l : List S52) (K : Nat) (acc : List S52) (m : Nat), (∀ s ∈ l, goodS s) → m ≤ K → acc.length + l.length ≤ 8 → m < (allB l).length →
    secsE K acc ((allB l).take m) = .error 2 ∨ ∃ j, j < l.length ∧ secsE K acc ((allB l).take m) = .ok (acc ++ l.take j)
  | [], K, acc, m, _, _, _, hm => by simp [allB] at hm
  | s :: l, 0, acc, m, _, hK, _, _ => .inr ⟨0, by simp, by
      obtain rfl : m = 0 := by omega
      simp [secsE]⟩
  | s :: l, K + 1, acc, m, h, hK, ha, hm => by
    by_cases h0 : m = 0
    · subst h0
      exact .inr ⟨0, by simp, by simp [secsE]⟩
    · have hne : ¬ (allB (s :: l)).take m = [] := by
        intro h2
        have := congrArg List.length h2
        simp only [List.length_take, List.length_nil] at this
        omega
      simp only [secsE, if_neg hne, if_neg (show ¬ acc.length = 8 by simp at ha; omega)]
      simp only [allB, List.length_append] at hm
      rw [show allB (s :: l) = secB s ++ allB l from rfl]
      by_cases hs : m < (secB s).length
      · rw [List.take_append_of_le_length (by omega), secE_cut (h s (by simp)) m (by omega) hs]
        exact .inl rfl
      · rw [List.take_append, List.take_of_length_le (by omega), secE_put (h s (by simp))]
        simp only
        have hpos : 0 < (secB s).length := by simp [secB]
        rcases secsE_cut l K (acc ++ [s]) (m - (secB s).length) (fun x hx => h x (by simp [hx])) (by omega) (by simp at ha ⊢; omega) (by omega) with h2 | ⟨j, hj, h2⟩
        · exact .inl h2
        · exact .inr ⟨j + 1, by simpa using hj, by rw [h2]; simp⟩
/-- What is read of a file that is cut off. -/
theorem getM_cut {l : List S52} (h : ∀ s ∈ l, goodS s) (hl : l.length ≤ 8) (n : Nat) (hn : n < (fileB 2 l).length) :
    (∃ e, getM dior (mkB ((fileB 2 l).take n)) = .error e ∧ (e = 2 ∨ e = 6)) ∨ ∃ j, j < l.length ∧ getM dior (mkB ((fileB 2 l).take n)) = .ok (2, l.take j) := by
  have hlt : ∀ c ∈ (fileB 2 l).take n, c < 256 := take_lt (fileB_lt (by omega) h) n
  by_cases h4 : n < 4
  · refine .inl ⟨6, ?_, .inr rfl⟩
    unfold getM
    rw [if_neg]
    rw [bs_mkB hlt]
    intro hp
    have h5 := hp.2.length_le
    rw [show bs dior = [68, 73, 79, 82] by decide] at h5
    simp only [List.length_take, List.length_cons, List.length_nil] at h5
    omega
  · obtain ⟨m, rfl⟩ : ∃ m, n = m + 4 := ⟨n - 4, by omega⟩
    have e : (fileB 2 l).take (m + 4) = [68, 73, 79, 82] ++ (2 :: allB l).take m := by simp [fileB]
    have hlt2 : ∀ c ∈ (2 :: allB l).take m, c < 256 := take_lt (fun c hc => by
      rcases List.mem_cons.1 hc with rfl | hc
      · decide
      · exact allB_lt l h c hc) m
    rw [e, getM_dior _ hlt2]
    cases m with
    | zero => exact .inl ⟨2, rfl, .inl rfl⟩
    | succ m =>
      simp only [List.take_succ_cons, getE]
      rw [if_neg (by omega)]
      have hm : m < (allB l).length := by simp [fileB] at hn; omega
      rcases secsE_cut l ((allB l).take m).length [] m h (by simp; omega) (by simpa using hl) hm with h2 | ⟨j, hj, h2⟩
      · rw [h2]
        exact .inl ⟨2, rfl, .inl rfl⟩
      · rw [h2]
        exact .inr ⟨j, hj, rfl⟩
theorem FrameCut (l : List S52) (n : Int) : ∃ k, dioramalaw04_FrameCut.f k l n = some true := by
  refine ⟨100000 + 1 + 1, ?_⟩
  obtain ⟨K, hK⟩ : ∃ K, K = 100000 := ⟨_, rfl⟩
  rw [← hK]
  have ht : dioramalaw04_FrameCut.j0 (K + 1 + 1) l n true = some true := by
    rw [dioramalaw04_FrameCut.j0, if_pos rfl, frame_awake _ (by omega)]
    rfl
  have ht1 : ∀ b, dioramalaw04_FrameCut.j1 (K + 1) l n b true = some true := by
    intro b
    rw [dioramalaw04_FrameCut.j1, if_pos rfl]
  unfold dioramalaw04_FrameCut.f
  rw [frame_awake _ (by omega), Option.bind_some, if_pos rfl]
  obtain ⟨r, hr, hs⟩ := great_eq (K + 1 + 1) (by omega) l
  rw [hr, Option.bind_some]
  cases r with
  | true => exact ht
  | false =>
    obtain ⟨hl, hp⟩ := hs rfl
    rw [dioramalaw04_FrameCut.j0, if_neg Bool.false_ne_true, Option.bind_some, if_pos (by simp; omega), List.nil_append]
    obtain ⟨b, e, hput, he1, he0⟩ := framePut_dior 2 l
    rw [show (⟨#[68, 73, 79, 82]⟩ : ByteArray) = dior from rfl, hput, Option.bind_some]
    by_cases he : e = 0
    · obtain ⟨h1, h2, h3, h4, rfl⟩ := he0 he
      have hlen := allB_small l hp
      rw [if_pos he]
      by_cases hn0 : n < 0
      · rw [if_pos hn0]; exact ht1 _
      rw [if_neg hn0]
      by_cases hn1 : n ≥ ((mkB (fileB (2 : Int).toNat l)).size : Int)
      · rw [decide_eq_true hn1]; exact ht1 _
      rw [decide_eq_false hn1]
      rw [show (2 : Int).toNat = 2 from rfl] at hn1 ⊢
      rw [mkB_size] at hn1
      obtain ⟨m, rfl⟩ : ∃ m : Nat, n = m := ⟨n.toNat, by omega⟩
      have hsz : (fileB 2 l).length = 5 + (allB l).length := by simp [fileB]; omega
      have hex : (mkB (fileB 2 l)).extract 0 ((m : Int)).toNat = mkB ((fileB 2 l).take m) := by
        rw [extract_mkB, bs_mkB (fileB_lt (by omega) h4), Int.toNat_natCast, List.drop_zero]
      rw [dioramalaw04_FrameCut.j1, if_neg Bool.false_ne_true, if_pos (by omega), if_pos (by rw [mkB_size]; omega), show (⟨#[68, 73, 79, 82]⟩ : ByteArray) = dior from rfl, hex,
        frameGet_eq K dior _ (by rw [mkB_size, List.length_take]; omega) (by rw [mkB_size, List.length_take]; omega), Option.bind_some]
      rcases getM_cut h4 h3 m (by omega) with ⟨e2, hg, he2⟩ | ⟨j, hj, hg⟩
      · rw [hg]
        rw [if_neg (show ¬ (tellG (.error e2)).2.2 = 0 by show ¬ e2 = 0; omega), if_pos (show ((tellG (.error e2)).2.1.length : Int) = 0 from rfl)]
        rcases he2 with rfl | rfl
        · rfl
        · rfl
      · rw [hg]
        have hj2 : (l.take j).length = j := by rw [List.length_take]; omega
        rw [if_pos (show (tellG (.ok (2, l.take j))).2.2 = 0 from rfl), if_pos (show ((tellG (.ok (2, l.take j))).2.1.length : Int) < (l.length : Int) by show ((l.take j).length : Int) < _; omega), if_pos (by omega), if_pos (show ((tellG (.ok (2, l.take j))).2.1.length : Int) ≤ (l.length : Int) by show ((l.take j).length : Int) ≤ _; omega)]
        have h6 : l.take (((tellG (.ok (2, l.take j))).2.1.length : Int)).toNat = l.take j := by
          show l.take (((l.take j).length : Int)).toNat = l.take j
          rw [Int.toNat_natCast, hj2]
        rw [h6]
        show (dioramaref04_Same.f K (l.take j) (l.take j)).bind _ = _
        rw [same_eq _ _ (by omega) (by omega), Option.bind_some]
    · rw [if_neg he]
      exact ht1 _
end Go.Proofs.Ytdjpelcdijpihaa.Pure
