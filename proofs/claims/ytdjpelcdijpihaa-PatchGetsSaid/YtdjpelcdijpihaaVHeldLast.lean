/- A part of the proof of the claim: what it uses of the texts HandCount, HeldLast. -/
import Derived.Test.YtdjpelcdijpihaaVPatchCur
import Derived.Test.YtdjpelcdijpihaaShort
import Derived.Deep.RegionHeld3
import Derived.IntWalk
import Derived.Deep.LoopGhost
import Derived.OrdersHeld
import Derived.Deep.RegionHeld
import Derived.KernelRfl
namespace Go.Proofs.Ytdjpelcdijpihaa.PrintF
open Go.RowKit Go.Proofs.Ytdjpelcdijpihaa.Print Go.Proofs.YtdjpelcdijpihaaW.PrintWords Go.Proofs.YtdjpelcdijpihaaW.PrintLast Go.Lib
set_option linter.unusedVariables false
set_option linter.unusedSimpArgs false
set_option maxHeartbeats 8000000 in
set_option maxRecDepth 100000 in
theorem count_calls {α : Type} {w0 : World} {gc F : Nat} {fn : Func} {cap : Array Value} {cb : ByteArray} {Inv : List α → PS → World → Prop} {step : PS → α × PS}
  (hF : Try.prog.funcs[F]? = some fn) (hname : (fn.name == "runtime.NumGoroutine") = false) (hbody : fn.body.isSome = true) (hcb : cb.size ≤ 140737488355328)
  (hcur : ∀ xs s W, Inv xs s W → IsS122 w0 W gc cb (atOf cb s) s.2 ∧ Below w0.heap.size w0 W ∧ Good cb s)
  (hkeep : ∀ xs s W s' W', Inv xs s W → Good cb s' → IsS122 w0 W' gc cb (atOf cb s') s'.2 → Below w0.heap.size w0 W' → KeepBut W W' gc none → Inv xs s' W')
  (hstep : ∀ xs s W, Inv xs s W → s.2 = none → xs.length < 16777216 → Calls Try.prog F cap W fun e W' => e = .returned (.tuple #[]) ∧ Inv (xs ++ [(step s).1]) (step s).2 W')
  (s : PS) (W : World) (h : Inv [] s W) :
  Calls Try.prog 62 #[.pointer (some ⟨gc, 0, none⟩), .func (.func F) #[] cap] W fun e W' => e = .returned (.tuple #[]) ∧ Inv (countP step s).1 (countP step s).2 W' := by
 have he : ∀ W : World, (callFunc F cap).run Try.prog W = .ok (.enter F cap) W := fun W => enters_ hF hname hbody cap W
 clear hF hname hbody
 obtain ⟨hi, hb, hg⟩ := hcur _ _ _ h
 have HC := Lib.hid hcur
 have HKP := Lib.hid hkeep
 have HST := Lib.hid hstep
 have IV := Lib.hid h
 have HI := Lib.hid hi
 have HB := Lib.hid hb
 have HG := Lib.hid hg
 clear hcur hkeep hstep h hi hb hg
 obtain ⟨n0, hn0⟩ : ∃ n0 : Nat, (uintP s).1 = (n0 : Int) := ⟨(uintP s).1.toNat, by have := uintP_range s; omega⟩
 have hn1 : n0 ≤ 16777216 := by have := uintP_range s; omega
 obtain ⟨R, hR⟩ : ∃ R, R = countP step s := ⟨_, rfl⟩
 have HU := uint_cur hcb s HG.out.1
 rw [hn0] at HU
 have HU1 := Lib.hid HU.1
 have HR : Hid (iterP step n0 (uintP s).2 = R) := Lib.hid (by rw [hR]; unfold countP; rw [hn0]; rfl)
 rw [← hR]
 have HN1 := Lib.hid hn1
 clear HU hR hn0 hn1
 go_enter Try.func62, Try.ntmps62
 go_wp2_with (go_at_call 73; refine (cursor_Cursor_Uint.calls (rdsOf cb) gc cb (atOf cb s) s.2 16777216 (n0 : Int) cb (atOf cb (uintP s).2) (uintP s).2.2 w0 _ HI.out HB.out HU1.out).mono ?_; rintro e w1 ⟨rfl, i1, b1, k1⟩; have IV1 := Lib.hid (HKP.out _ _ _ _ _ IV.out HG.out.uint i1 b1 k1); clear i1 b1 k1 IV HI HB HG HU1)
 go_loopw [4] (fun i wr => ∃ m : Nat, i = .int .i64 m ∧ m ≤ 16777216 ∧ ∃ xs st, Hid (Inv xs st wr) ∧ Hid (m + xs.length ≤ 16777216) ∧ Hid ((xs ++ (iterP step m st).1, (iterP step m st).2) = R)) (fun i _ => (intOf i).toNat)
 case atStart => exact ⟨n0, rfl, HN1.out, [], _, IV1, Lib.hid (by have := HN1.out; simp; exact this), Lib.hid (by rw [HR.out]; rfl)⟩
 case round =>
  obtain ⟨m, rfl, hm, xs, st, IV, HL, HR⟩ := hrel
  cases m with
  | zero =>
   clear HL
   go_wp2_with fail
   go_end0
   have hr := HR.out
   rw [iterP, List.append_nil] at hr
   rw [← hr]
   exact ⟨rfl, IV.out⟩
  | succ m =>
   obtain ⟨hi, hb, hg⟩ := HC.out _ _ _ IV.out
   have HI := Lib.hid hi
   have HB := Lib.hid hb
   have HG := Lib.hid hg
   have hd : decide (0 < ((m + 1 : Nat) : Int)) = true := decide_eq_true (by omega)
   have hw : wrap64 (m : Int) = (m : Int) := by unfold wrap64; omega
   have HW := Lib.hid hw
   have HM := Lib.hid hm
   clear hi hb hg hw hm
   obtain ⟨L, er⟩ := st
   cases er with
   | none =>
    have hr := HR.out
    simp only [iterP] at hr
    have HR2 := Lib.hid hr
    clear hr HR
    go_wp2_with (first | (go_at_call 53; refine (cursor_Cursor_Err.calls gc cb (atOf cb (L, none)) none 0 cb (atOf cb (L, none)) none w0 _ HI.out HB.out rfl).mono ?_; rintro e w2 ⟨rfl, i2, b2, k2⟩; have IV2 := Lib.hid (HKP.out _ _ _ (L, none) _ IV.out HG.out i2 b2 k2); clear i2 b2 k2 IV HI HB) | ((with_reducible refine (HST.out xs (L, none) _ IV2.out rfl (by have := HL.out; omega)).mono ?_); rintro e w3 ⟨rfl, i3⟩; have IV3 := Lib.hid i3; clear i3 IV2))
    go_roundw
    case rel => exact ⟨m, by rw [HW.out], by have := HM.out; omega, _, _, IV3, Lib.hid (by have := HL.out; simp only [List.length_append, List.length_singleton]; omega), Lib.hid (by rw [← HR2.out, List.append_assoc]; rfl)⟩
    case measure => rw [HW.out]; simp [intOf]
   | some er =>
    have h0 := HG.out.2 er rfl
    have t1 : (er == 0) = false := beq_eq_false_iff_ne.mpr h0
    have hr := HR.out
    rw [iterP_some step _ (L, some er) er rfl, List.append_nil] at hr
    have HR2 := Lib.hid hr
    clear hr HR h0
    go_wp2_with (first | (go_at_call 53; refine (cursor_Cursor_Err.calls gc cb (atOf cb (L, some er)) (some er) er cb (atOf cb (L, some er)) (some er) w0 _ HI.out HB.out rfl).mono ?_; rintro e w2 ⟨rfl, i2, b2, k2⟩; have IV2 := Lib.hid (HKP.out _ _ _ (L, some er) _ IV.out HG.out i2 b2 k2); clear i2 b2 k2 IV HI HB))
    go_end0
    rw [← HR2.out]
    exact ⟨rfl, IV2.out⟩
end Go.Proofs.Ytdjpelcdijpihaa.PrintF
namespace Go.Proofs.Ytdjpelcdijpihaa
open Go
section
variable {P : Program} {ops : Array Oper} {Q : Exit → Act → World → Prop} {md : Region.Mode} {S : World → Prop} {last : Nat}
def wpAnyU (P : Program) (md : Region.Mode) (ops : Array Oper) (Q : Exit → Act → World → Prop) (S : World → Prop) (last : Nat) : Nat → Array Bool → Act → World → Prop
 | 0, listed, a, w => Region.ready md ops listed = [] ∧ Q .normal a w
 | fuel + 1, listed, a, w =>
  (Region.ready md ops listed = [] → Q .normal a w) ∧
  ∀ i ∈ Region.ready md ops listed, wpOp P ops Q i (fun a' w' => (i ≠ last → S w') ∧ wpAnyU P md ops Q S last fuel (listed.setIfInBounds i true) a' w') a w
theorem wpAny_of_U : ∀ (fuel : Nat) (listed : Array Bool) (a : Act) (w : World), wpAnyU P md ops Q S last fuel listed a w → wpAny P md ops Q fuel listed a w
 | 0, _, _, _, h => h
 | fuel + 1, _, _, _, h => ⟨h.1, fun i hi => wpOp_mono (fun a' w' h' => wpAny_of_U fuel _ a' w' h'.2) (h.2 i hi)⟩
def waitsFor (md : Region.Mode) (ops : Array Oper) (last i : Nat) : Bool := match ops[last]? with
 | some o => o.after.any fun e => Region.binds md e && e.on == i
 | none => true
theorem wpAnyU_first {i : Nat} {oi : Oper} {v : Value} (hi : ops[i]? = some oi) (hsel : ∀ (j : Nat) (o : Oper) cs b, ops[j]? = some o → o.op ≠ .select cs b) (hl : waitsFor md ops last i = true)
  (hQ : ∀ c a w, Q (.panic c) (a.put oi.dst v) w → Q (.panic c) a w) :
  ∀ (fuel : Nat) (listed : Array Bool) (a : Act) (w : World),
   (∀ j oj, ops[j]? = some oj → j ≠ i → listed.getD j true = false → (∀ e ∈ oj.after, Region.binds md e = true → e.on ≠ i) → oi.apart ops oj = true) →
   i ∈ Region.ready md ops listed → YieldsIf P ops S oi v a → S w →
   wpAnyU P md ops Q S last fuel (listed.setIfInBounds i true) (a.put oi.dst v) w → wpAnyU P md ops Q S last (fuel + 1) listed a w := by
 intro fuel
 induction fuel with
 | zero =>
  intro listed a w _ hr hy hS H
  refine ⟨fun h => (by rw [h] at hr; cases hr), fun j hj => ?_⟩
  by_cases hji : j = i
  ·subst hji; exact hy.wpOp hi hS ⟨fun _ => hS, H⟩
  ·have := ready_mono hj hji
   rw [H.1] at this
   cases this
 | succ fuel ih =>
  intro listed a w hfree hr hy hS H
  refine ⟨fun h => (by rw [h] at hr; cases hr), fun j hj => ?_⟩
  by_cases hji : j = i
  ·subst hji; exact hy.wpOp hi hS ⟨fun _ => hS, H⟩
  ·have h1 := H.2 j (ready_mono hj hji)
   obtain ⟨hjun, oj, hoj, hall⟩ := mem_ready.1 hj
   have hnot : ∀ e ∈ oj.after, Region.binds md e = true → e.on ≠ i := fun e he hb heq => by
    have h1 := hall e he hb
    have h0 := (mem_ready.1 hr).1
    rw [heq] at h1
    rcases Nat.lt_or_ge i listed.size with h' | h'
    ·simp [h'] at h0 h1; rw [h0] at h1; cases h1
    ·simp [Array.getElem?_eq_none h'] at h1
   have hjl : j ≠ last := by
    rintro rfl
    unfold waitsFor at hl
    rw [hoj] at hl
    simp only [Array.any_eq_true] at hl
    obtain ⟨n, hn, he⟩ := hl
    rw [Bool.and_eq_true, beq_iff_eq] at he
    exact hnot _ (Array.getElem_mem hn) he.1 he.2
   have h2 := wpOp_putIf hoj (hfree j oj hoj hji hjun hnot) (fun cs b => hsel i oi cs b hi) (fun cs b => hsel j oj cs b hoj) hQ hy h1
   have hfree' : ∀ k ok, ops[k]? = some ok → k ≠ i → (listed.setIfInBounds j true).getD k true = false →
     (∀ e ∈ ok.after, Region.binds md e = true → e.on ≠ i) → oi.apart ops ok = true := fun k ok hk hki hun hno => by
    refine hfree k ok hk hki ?_ hno
    by_cases hjk : j = k
    ·subst hjk; exact hjun
    ·rw [getD_set_ne true hjk] at hun; exact hun
   refine wpOp_mono (fun a' w' h3 => ⟨fun _ => h3.2.1 hjl, ih (listed.setIfInBounds j true) a' w' hfree' (ready_mono hr (Ne.symm hji)) h3.1 (h3.2.1 hjl) ?_⟩) h2
   rw [Array.setIfInBounds_comm _ _ hji]
   exact h3.2.2
theorem tku (i : Nat) {oi : Oper} (hi : ops[i]? = some oi) (v : Value) {fuel : Nat} {listed : Array Bool} {a : Act} {w : World} (hy : YieldsIf P ops S oi v a)
  (h : wpAnyU P md ops Q S last fuel (listed.setIfInBounds i true) (a.put oi.dst v) w)
  (hs : Region.noSelect ops = true := by kernel_rfl) (hf : Region.free md ops listed i = true := by kernel_rfl) (hr : (Region.ready md ops listed).contains i = true := by kernel_rfl) (hl : waitsFor md ops last i = true := by kernel_rfl)
  (hQ : ∀ c a w, Q (.panic c) (a.put oi.dst v) w → Q (.panic c) a w := by exact fun _ _ _ h => h) (hS : S w := by assumption) : wpAnyU P md ops Q S last (fuel + 1) listed a w :=
 wpAnyU_first hi (Region.noSelect_spec hs) hl hQ fuel listed a w (Region.free_spec hi hf) (by simpa using hr) hy hS h
theorem rdu (i : Nat) {o : Oper} (ho : ops[i]? = some o) {fuel : Nat} {listed : Array Bool} {a : Act} {w : World}
  (h : ∀ K' : Act → World → Prop, Shut (∀ a w, (i ≠ last → S w) → ((i ≠ last → S w) → wpAnyU P md ops Q S last fuel (listed.setIfInBounds i true) a w) → K' a w) → if Region.wanted o (yielded ops a.tmps) = true then Oper.wp P o a w K' Q else K' (a.put o.dst undef) w)
  (hr : Region.ready md ops listed = [i] := by kernel_rfl) : wpAnyU P md ops Q S last (fuel + 1) listed a w := by
 refine ⟨fun h0 => absurd (hr ▸ h0) (by simp), fun j hj => ?_⟩
 rw [hr] at hj
 obtain rfl : j = i := by simpa using hj
 exact wpOp_step ho (fun K' hK => h K' (fun a w hS hW => hK a w ⟨hS, hW hS⟩))
theorem endu {listed : Array Bool} {a : Act} {w : World} (h : Q .normal a w) (hr : Region.ready md ops listed = [] := by kernel_rfl) : ∀ fuel, wpAnyU P md ops Q S last fuel listed a w
 | 0 => ⟨hr, h⟩
 | _ + 1 => ⟨fun _ => h, by rw [hr]; simp⟩
theorem begu (last : Nat) {id : Nat} {a : Act} {w : World} (S : World → Prop) (hS : S w.drew) (h : S w.drew → wpAnyU P .any ops Q S last ops.size (Array.replicate ops.size false) a w.drew) (hm : P.follows .mixedOrders = true := by kernel_rfl) : (Code.region id ops true).wp P Q a w :=
 wp_region_any hm (wpAny_of_U _ _ _ _ (h hS))
end
end Go.Proofs.Ytdjpelcdijpihaa
