/- The row FrameBurst: the law's function answers true at any sections, any place and any mask. Conditions: none. -/
import Derived.Test.YtdjpelcdijpihaaRows
import Derived.Test.YtdjpelcdijpihaaFrameRow
import Derived.Test.YtdjpelcdijpihaaPureFrameBurst
import Derived.WalkKit
import Derived.ProofKit
import Derived.OpenShut
import Derived.ShutString
import Derived.ChangeOld
import Derived.Below
import Derived.Carry
import Derived.SizedLaws
namespace Go.Proofs.Ytdjpelcdijpihaa.frameBurst
open Go.ChangeShapes Go.WideShapes Go.ChangeAt Go.RowKit
set_option linter.unusedVariables false
theorem own : ownKnob Try.prog.godebug = none := by kernel_rfl
theorem laidOut : laidOutB Try.prog = true := by kernel_rfl
set_option maxRecDepth 100000
theorem pair_open {H : Type} {enc : TypeId × Value → H} {w : World} {base : Nat} {spare : Nat → Bool} {held : Bool} {r : Reach} {b0 : Nat} {v : Value} {d : DataW H} {p : List MemPlace}
    (hv : Value.okWide Try.prog w r b0 50 v) (h : DataW.Trod enc Try.prog w base spare held 50 v d p) : ∃ x y : Int, v = .agg #[.int .i64 x, .int .i64 y] := by
  have hu : Try.prog.underlying 50 = some (.array 2 3) := by kernel_rfl
  have hce : Try.prog.cellsOf 3 = 1 := by kernel_rfl
  have hc2 : Try.prog.cellsOf 50 = 2 := by kernel_rfl
  obtain ⟨cs, rfl, hsz⟩ : ∃ cs, v = .agg cs ∧ cs.size = 2 := by
    simp only [Value.okWide, hu] at hv
    obtain ⟨cs, h1, h2, _⟩ := hv
    exact ⟨cs, h1, by rw [h2, hc2]⟩
  obtain ⟨fuel, hf⟩ := h
  obtain ⟨xs, m, _, _, _, hxl, hx⟩ := DataW.trod_array hu hf
  have hc : ((Value.agg cs).cells).toList = cs.toList := rfl
  rw [hce] at hx
  have hlen : cs.toList.length = 2 := by simpa using hsz
  have at_ : ∀ i, i < 2 → ∃ a : Int, cs.toList[i]? = some (.int .i64 a) := by
    intro i hi
    have h1 := hx i hi
    have hxi : i < xs.length := by omega
    rw [List.getElem?_eq_getElem hxi] at h1
    obtain ⟨a, ha, _⟩ := DataW.trod_int Try.underlying3 h1
    refine ⟨a, ?_⟩
    have h2 := congrArg (fun l => l[0]?) ha
    simp only [List.getElem?_cons_zero, Nat.mul_one, List.getElem?_take, List.getElem?_drop, Nat.add_zero] at h2
    simpa [hc] using h2
  obtain ⟨a, ha⟩ := at_ 0 (by omega)
  obtain ⟨b, hb⟩ := at_ 1 (by omega)
  refine ⟨a, b, ?_⟩
  congr 1
  apply Array.ext'
  apply List.ext_getElem?
  intro i
  match i with
  | 0 => exact ha
  | 1 => exact hb
  | i + 2 => rw [List.getElem?_eq_none (by omega), List.getElem?_eq_none (by simp)]
theorem lifted (os : Os) (started : os.Started) (H : Type) (enc : TypeId × Value → H) :
    ReturnsInHanded {} Try.checked os 12 .any (Rows.frameBurstSpec.pre6 enc Try.prog Try.f12 Rows.frameBurstRow.domain false) (Rows.frameBurstSpec.post enc Try.prog Try.f12 false true false false) := by
  refine returnsInHanded_of_change_sized (C := Try.checked) own started (by kernel_rfl) Try.func12
    (ChangeSpec.witness6 (enc := enc) (C := Try.checked) false ⟨#[], #[.slice none 0 0, .agg #[.int .i64 0, .int .i64 0], .int .u32 0], []⟩ 8 (by kernel_rfl) (by kernel_rfl) (by kernel_rfl) (by kernel_rfl)) ?_
  intro W base args ds gs before hval0 hW hcnd hsz0 _
  have hval : ∀ (j : Nat) t v, Try.f12.params[j]? = some t → args[j]? = some v → Value.okWide Try.prog W .any base t v := hval0
  have hW' := hW
  obtain ⟨p, q, hA0, hV, rfl, hfz, hnd⟩ := hW
  have hA : DataW.TrodAll enc Try.prog W 0 (fun _ => true) true Try.f12.params.toList args.toList ds p := hA0
  rw [Try.params12] at hA hval
  obtain ⟨v0, vs0, d0, ds0, p0, q0, hargs, rfl, rfl, h0, r0⟩ := trodAll_cons hA
  obtain ⟨v1, vs1, d1, ds1, p1, q1, rfl, rfl, rfl, h1, r1⟩ := trodAll_cons r0
  obtain ⟨v2, vs2, d2, ds2, p2, q2, rfl, rfl, rfl, h2, r2⟩ := trodAll_cons r1
  obtain ⟨rfl, rfl, rfl⟩ := trodAll_nil r2
  obtain rfl : args = #[v0, v1, v2] := by cases args; simp_all
  obtain ⟨rfl, rfl⟩ := trodVars_none hV
  have k0 := h0
  have lt0 : ∀ x ∈ p0, x.block < W.heap.size := by obtain ⟨m, hm⟩ := k0; exact DataW.trod_lt m _ _ _ hm
  have k1 := h1
  have lt1 : ∀ x ∈ p1, x.block < W.heap.size := by obtain ⟨m, hm⟩ := k1; exact DataW.trod_lt m _ _ _ hm
  obtain ⟨A0, c0, a0, rfl, hc0, hr0⟩ := PrintF.secs_open (hval 0 36 v0 rfl rfl) h0
  obtain ⟨x1, y1, rfl⟩ := pair_open (hval 1 50 v1 rfl rfl) h1
  obtain ⟨a2, rfl, rfl, rfl, w2⟩ := open_int Try.underlying23 (hval 2 23 v2 rfl rfl) h2
  clear hA0 hval0 hsz0
  obtain ⟨m0, m1⟩ := bounds_u32 w2
  refine (Pure.FrameBurst A0 c0 a0 x1 y1 a2 m0 m1 W hr0 hc0).mono fun e W' ⟨he, bel⟩ => ?_
  subst he
  exact ⟨_, rfl, _, _, _, [], _, [], hW', trodAll_mk1 (shut_bool Try.underlying4 _), (trodAll_cons_mk (Below.trod laidOut (by kernel_rfl) (of_decide_eq_true (by kernel_rfl)) k0 bel lt0) (trodAll_cons_mk (Below.trod laidOut (by kernel_rfl) (of_decide_eq_true (by kernel_rfl)) k1 bel lt1) (trodAll_cons_mk (shut_int Try.underlying23 w2) trodAll_mk0))), rfl, bel.frame _, fun h => by cases h⟩
theorem over : Rows.frameBurstRow.holds Try.pinned (OpenSpec.ofChange Rows.frameBurstSpec) :=
  OpenClaim.holds_of_wide 12 Try.f12 rfl rfl rfl rfl rfl rfl rfl ⟨rfl, rfl, rfl, rfl, rfl⟩ rfl rfl rfl rfl rfl (by kernel_rfl) Try.func12 (by kernel_rfl)
    (of_decide_eq_true (by kernel_rfl)) (by unfold Func.isWrapper; first | (rw [if_pos (by decide +kernel)]; kernel_rfl) | (rw [if_neg (by decide +kernel)]; exact ⟨rfl, rfl⟩))
    (fun os started H enc _ => lifted os started H enc)
theorem proved : Rows.FrameBurstSaid := over
#print axioms proved
end Go.Proofs.Ytdjpelcdijpihaa.frameBurst
namespace Go.Proofs.Ytdjpelcdijpihaa
/-- The row, under a short name, for the claim. -/
theorem frameBurst_holds : Rows.FrameBurstSaid := frameBurst.proved
end Go.Proofs.Ytdjpelcdijpihaa
