/- A part of the proof of the claim: what it uses of the text HandCount. -/
import Derived.Test.YtdjpelcdijpihaaZPatchCur
import Derived.Test.YtdjpelcdijpihaaShort
import Derived.Deep.RegionHeld3
import Derived.IntWalk
import Derived.Deep.LoopGhost
namespace Go.Proofs.Ytdjpelcdijpihaa.PrintF
open Go.RowKit Go.Proofs.Ytdjpelcdijpihaa.Print Go.Proofs.YtdjpelcdijpihaaW.PrintWords Go.Proofs.YtdjpelcdijpihaaW.PrintLast Go.Lib
set_option linter.unusedVariables false
set_option linter.unusedSimpArgs false
set_option maxHeartbeats 8000000 in
set_option maxRecDepth 100000 in
theorem count_calls {α : Type} {w0 : World} {gc F : Nat} {fn : Func} {cap : Array Value} {cb : ByteArray} {Inv : List α → PS → World → Prop} {step : PS → α × PS}
  (hF : Try.prog.funcs[F]? = some fn) (hname : (fn.name == "runtime.NumGoroutine") = false) (hbody : fn.body.isSome = true) (hcb : cb.size ≤ 140737488355328)
  (hcur : ∀ xs s W, Inv xs s W → IsS122 w0 W gc cb (atOf cb s) s.2 ∧ Below w0.heap.size w0 W ∧ Good cb s)
  (hkeep : ∀ xs s W s' W', Inv xs s W → Good cb s' → IsS122 w0 W' gc cb (atOf cb s') s'.2 → Below w0.heap.size w0 W' → KeepBut W W' gc none → Inv xs s' W')
  (hstep : ∀ xs s W, Inv xs s W → s.2 = none → xs.length < 16777216 → Calls Try.prog F cap W fun e W' => e = .returned (.tuple #[]) ∧ Inv (xs ++ [(step s).1]) (step s).2 W')
  (s : PS) (W : World) (h : Inv [] s W) :
  Calls Try.prog 62 #[.pointer (some ⟨gc, 0, none⟩), .func (.func F) #[] cap] W fun e W' => e = .returned (.tuple #[]) ∧ Inv (countP step s).1 (countP step s).2 W' := by
 have he : ∀ W : World, (callFunc F cap).run Try.prog W = .ok (.enter F cap) W := fun W => enters_ hF hname hbody cap W
 clear hF hname hbody
 obtain ⟨hi, hb, hg⟩ := hcur _ _ _ h
 have HC := Lib.hid hcur
 have HKP := Lib.hid hkeep
 have HST := Lib.hid hstep
 have IV := Lib.hid h
 have HI := Lib.hid hi
 have HB := Lib.hid hb
 have HG := Lib.hid hg
 clear hcur hkeep hstep h hi hb hg
 obtain ⟨n0, hn0⟩ : ∃ n0 : Nat, (uintP s).1 = (n0 : Int) := ⟨(uintP s).1.toNat, by have := uintP_range s; omega⟩
 have hn1 : n0 ≤ 16777216 := by have := uintP_range s; omega
 obtain ⟨R, hR⟩ : ∃ R, R = countP step s := ⟨_, rfl⟩
 have HU := uint_cur hcb s HG.out.1
 rw [hn0] at HU
 have HU1 := Lib.hid HU.1
 have HR : Hid (iterP step n0 (uintP s).2 = R) := Lib.hid (by rw [hR]; unfold countP; rw [hn0]; rfl)
 rw [← hR]
 have HN1 := Lib.hid hn1
 clear HU hR hn0 hn1
 go_enter Try.func62, Try.ntmps62
 go_wp2_with (go_at_call 73; refine (cursor_Cursor_Uint.calls (rdsOf cb) gc cb (atOf cb s) s.2 16777216 (n0 : Int) cb (atOf cb (uintP s).2) (uintP s).2.2 w0 _ HI.out HB.out HU1.out).mono ?_; rintro e w1 ⟨rfl, i1, b1, k1⟩; have IV1 := Lib.hid (HKP.out _ _ _ _ _ IV.out HG.out.uint i1 b1 k1); clear i1 b1 k1 IV HI HB HG HU1)
 go_loopw [4] (fun i wr => ∃ m : Nat, i = .int .i64 m ∧ m ≤ 16777216 ∧ ∃ xs st, Hid (Inv xs st wr) ∧ Hid (m + xs.length ≤ 16777216) ∧ Hid ((xs ++ (iterP step m st).1, (iterP step m st).2) = R)) (fun i _ => (intOf i).toNat)
 case atStart => exact ⟨n0, rfl, HN1.out, [], _, IV1, Lib.hid (by have := HN1.out; simp; exact this), Lib.hid (by rw [HR.out]; rfl)⟩
 case round =>
  obtain ⟨m, rfl, hm, xs, st, IV, HL, HR⟩ := hrel
  cases m with
  | zero =>
   clear HL
   go_wp2_with fail
   go_end0
   have hr := HR.out
   rw [iterP, List.append_nil] at hr
   rw [← hr]
   exact ⟨rfl, IV.out⟩
  | succ m =>
   obtain ⟨hi, hb, hg⟩ := HC.out _ _ _ IV.out
   have HI := Lib.hid hi
   have HB := Lib.hid hb
   have HG := Lib.hid hg
   have hd : decide (0 < ((m + 1 : Nat) : Int)) = true := decide_eq_true (by omega)
   have hw : wrap64 (m : Int) = (m : Int) := by unfold wrap64; omega
   have HW := Lib.hid hw
   have HM := Lib.hid hm
   clear hi hb hg hw hm
   obtain ⟨L, er⟩ := st
   cases er with
   | none =>
    have hr := HR.out
    simp only [iterP] at hr
    have HR2 := Lib.hid hr
    clear hr HR
    go_wp2_with (first | (go_at_call 53; refine (cursor_Cursor_Err.calls gc cb (atOf cb (L, none)) none 0 cb (atOf cb (L, none)) none w0 _ HI.out HB.out rfl).mono ?_; rintro e w2 ⟨rfl, i2, b2, k2⟩; have IV2 := Lib.hid (HKP.out _ _ _ (L, none) _ IV.out HG.out i2 b2 k2); clear i2 b2 k2 IV HI HB) | ((with_reducible refine (HST.out xs (L, none) _ IV2.out rfl (by have := HL.out; omega)).mono ?_); rintro e w3 ⟨rfl, i3⟩; have IV3 := Lib.hid i3; clear i3 IV2))
    go_roundw
    case rel => exact ⟨m, by rw [HW.out], by have := HM.out; omega, _, _, IV3, Lib.hid (by have := HL.out; simp only [List.length_append, List.length_singleton]; omega), Lib.hid (by rw [← HR2.out, List.append_assoc]; rfl)⟩
    case measure => rw [HW.out]; simp [intOf]
   | some er =>
    have h0 := HG.out.2 er rfl
    have t1 : (er == 0) = false := beq_eq_false_iff_ne.mpr h0
    have hr := HR.out
    rw [iterP_some step _ (L, some er) er rfl, List.append_nil] at hr
    have HR2 := Lib.hid hr
    clear hr HR h0
    go_wp2_with (first | (go_at_call 53; refine (cursor_Cursor_Err.calls gc cb (atOf cb (L, some er)) (some er) er cb (atOf cb (L, some er)) (some er) w0 _ HI.out HB.out rfl).mono ?_; rintro e w2 ⟨rfl, i2, b2, k2⟩; have IV2 := Lib.hid (HKP.out _ _ _ (L, some er) _ IV.out HG.out i2 b2 k2); clear i2 b2 k2 IV HI HB))
    go_end0
    rw [← HR2.out]
    exact ⟨rfl, IV2.out⟩
end Go.Proofs.Ytdjpelcdijpihaa.PrintF
