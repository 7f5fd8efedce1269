/- A part of the proof of the claim: what it uses of the text HandBuilder. -/
import Derived.Test.YtdjpelcdijpihaaProg
import Derived.WalkKit
import Derived.KernelRfl
import Derived.Lib.Hide
import Derived.Lib.Builder
import Derived.Lib.AppendStr
import Derived.Lib.UnsafeStr
import Derived.Laws.Externs
import Derived.Laws.MakeOwn
import Derived.RegionTactic
import Derived.ChangeAlike
namespace Go.Proofs.Ytdjpelcdijpihaa.Print
open Go.RowKit
structure KeepB (B b : Nat) (w w' : World) : Prop where
 os : w'.os = w.os
 tape : w'.tape = w.tape
 output : w'.output = w.output
 size : w.heap.size ≤ w'.heap.size
 block : ∀ k, k < w.heap.size → k ≠ b → (k < B ∨ ∀ cs fr, w.heap[k]? ≠ some (.cells cs 5 fr)) → w'.heap[k]? = w.heap[k]?
theorem KeepB.refl (B b : Nat) (w : World) : KeepB B b w w := ⟨rfl, rfl, rfl, Nat.le_refl _, fun _ _ _ _ => rfl⟩
theorem KeepB.trans {B b : Nat} {w1 w2 w3 : World} (h : KeepB B b w1 w2) (k : KeepB B b w2 w3) : KeepB B b w1 w3 := by
 refine ⟨k.os.trans h.os, k.tape.trans h.tape, k.output.trans h.output, Nat.le_trans h.size k.size, fun i hi hb hc => ?_⟩
 have e := h.block i hi hb hc
 have := h.size
 rw [k.block i (by omega) hb (by rw [e]; exact hc), e]
theorem KeepB.drew {B b : Nat} {w1 w2 : World} (h : KeepB B b w1 w2) : KeepB B b w1 w2.drew := ⟨h.os, h.tape, h.output, h.size, h.block⟩
theorem KeepB.of_below {B b : Nat} {w w' : World} (h : Below w.heap.size w w') : KeepB B b w w' := ⟨h.os, h.tape, h.output, h.size, fun k hk _ _ => h.block k hk⟩
theorem KeepB.below {B b : Nat} {w w' : World} (h : KeepB B b w w') (hB : B ≤ b) (hw : B ≤ w.heap.size) : Below B w w' := ⟨h.os, h.tape, h.output, h.size, fun k hk => h.block k (by omega) (by omega) (.inl hk)⟩
theorem KeepB.alloc {B b : Nat} {w1 w2 : World} (h : KeepB B b w1 w2) (o : Obj) : KeepB B b w1 (w2.alloc o) :=
 h.trans (KeepB.of_below ((Below.refl _ _).alloc (Nat.le_refl _) o))
def BAt (T : TypeId) (rest : List Value) (B b : Nat) (p v : Value) (bs : List UInt8) (w : World) : Prop :=
 B ≤ b ∧ w.heap[b]? = some (.cells (p :: v :: rest).toArray T (0, 0)) ∧ w.ownsRow B 5 1 v bs.length (Lib.byteCells bs)
def own (b : Nat) : Value := .pointer (some ⟨b, 0, none⟩)
def IsB (T : TypeId) (rest : List Value) (B b : Nat) (bs : List UInt8) (w : World) : Prop := ∃ p v, (p = .pointer none ∨ p = own b) ∧ BAt T rest B b p v bs w
variable {T : TypeId} {rest : List Value} {B b : Nat} {p v : Value} {bs : List UInt8} {w : World}
theorem BAt.lt (h : BAt T rest B b p v bs w) : b < w.heap.size := (Array.getElem?_eq_some_iff.1 h.2.1).1
theorem BAt.cell (h : BAt T rest B b p v bs w) (j : Nat) : w.cell? ⟨b, j, none⟩ = (p :: v :: rest)[j]? := by
 rw [Lib.cell_of_heap h.2.1]; simp
theorem BAt.frozen (h : BAt T rest B b p v bs w) (j : Nat) : w.frozen? ⟨b, j, none⟩ = false := Lib.frozen_of_heap h.2.1 j
theorem BAt.shape (h : BAt T rest B b p v bs w) : w.shape? b = some (T, rest.length + 2) := by
 simp [World.shape?, h.2.1]
theorem BAt.ne (h : BAt T rest B b p v bs w) (hT : T ≠ 5) : v.ownBlock ≠ some b := Lib.ownBlock_ne h.2.2 h.2.1 hT
theorem BAt.used (h : BAt T rest B b p v bs w) (hT : T ≠ 5) (q : Value) : BAt T rest B b q v bs (w.setCell ⟨b, 0, none⟩ q) := by
 have hne := h.ne hT
 obtain ⟨hB, hb, hown⟩ := h
 refine ⟨hB, by rw [heap_setCell_same _ _ _ _ _ _ hb]; simp, ?_⟩
 exact hown.kept (row := some b) ⟨rfl, rfl, rfl, by simp [World.setCell], fun k _ hk => Below.heap_setCell _ _ _ _ (fun e => hk (by simp [e]))⟩ (Or.inr hne)
theorem BAt.put (hB : B ≤ b) (hT : T ≠ 5) {bs' : List UInt8} {v' : Value} (hb : w.heap[b]? = some (.cells (p :: v :: rest).toArray T (0, 0))) (hown : w.ownsRow B 5 1 v' bs'.length (Lib.byteCells bs')) :
  BAt T rest B b p v' bs' (w.setCell ⟨b, 1, none⟩ v') := by
 have hne := Lib.ownBlock_ne hown hb hT
 refine ⟨hB, by rw [heap_setCell_same _ _ _ _ _ _ hb]; simp, ?_⟩
 exact hown.kept (row := some b) ⟨rfl, rfl, rfl, by simp [World.setCell], fun k _ hk => Below.heap_setCell _ _ _ _ (fun e => hk (by simp [e]))⟩ (Or.inr hne)
theorem KeepB.setCell {w1 w2 : World} (h : KeepB B b w1 w2) (j : Nat) (u : Value) : KeepB B b w1 (w2.setCell ⟨b, j, none⟩ u) :=
 h.trans ⟨rfl, rfl, rfl, by simp, fun k _ hb _ => heap_setCell_other _ _ _ _ hb⟩
theorem KeepB.grown {w1 w2 w3 : World} (h : KeepB B b w1 w2) {n : Nat} {xs : List Value} (hown : w2.ownsRow B 5 1 v n xs) (hg : w2.grownBy w3 v.ownBlock) : KeepB B b w1 w3 := by
 refine h.trans ⟨hg.os, hg.tape, hg.output, hg.size, fun k hk hb hc => hg.block k hk fun e => ?_⟩
 rcases hown.2 with ⟨rfl, _⟩ | ⟨g, cap, cur, rfl, hb2, hh, _⟩
 ·simp [Value.ownBlock] at e
 ·simp only [Value.ownBlock, Option.some.injEq] at e
  subst e
  rcases hc with hc | hc
  ·omega
  ·exact hc _ _ hh
theorem infoByte : (Try.prog.info? 5).map (fun i => (i.zero, i.size, i.bytes)) = some (some (.int .u8 0), 1, 1) := by kernel_rfl
theorem sizeBuilder : (Try.prog.info? 75).map (·.size) = some 2 := by kernel_rfl
set_option maxHeartbeats 4000000 in
set_option maxRecDepth 100000 in
theorem copyCheck_used (b : Nat) (w : World) (h0 : w.cell? ⟨b, 0, none⟩ = some (.pointer (some ⟨b, 0, none⟩))) :
  Calls Try.prog 71 #[.pointer (some ⟨b, 0, none⟩)] w fun e w' => e = .returned (.tuple #[]) ∧ w' = w := by
 obtain ⟨j, hj, _⟩ := Option.map_eq_some_iff.1 sizeBuilder
 go_enter Try.func71, Try.ntmps71
 go_wp2
 rw [Lib.run_neq_ptr_same w _ Try.underlying73 hj]
 go_wp2
 go_end0
 exact ⟨rfl, rfl⟩
set_option maxHeartbeats 4000000 in
set_option maxRecDepth 100000 in
theorem copyCheck_fresh (b n : Nat) (w : World) (h0 : w.cell? ⟨b, 0, none⟩ = some (.pointer none)) (hsh : w.shape? b = some (T, n + 2)) (hfz : w.frozen? ⟨b, 0, none⟩ = false)
  (hlies : liesAt Try.prog Try.prog.depth T ((n + 2) / Try.prog.cellsOf T) 0 75 1 = true) :
  Calls Try.prog 71 #[.pointer (some ⟨b, 0, none⟩)] w fun e w' => e = .returned (.tuple #[]) ∧ w' = w.setCell ⟨b, 0, none⟩ (.pointer (some ⟨b, 0, none⟩)) := by
 obtain ⟨j, hj, hjs⟩ := Option.map_eq_some_iff.1 sizeBuilder
 go_enter Try.func71, Try.ntmps71
 go_wp2
 rw [Lib.run_to_unsafe w ⟨b, 0, none⟩ Try.underlying73 Try.underlying146 hj (by rw [hjs]; decide) hsh (Nat.zero_lt_succ _)]
 simp only [Result.andThen]
 rw [Oper.upon_value]
 go_wp2
 rw [run_callFunc_extern Try.func98 (by kernel_rfl) (by kernel_rfl) (by kernel_rfl) (e := Extern.AbiNoEscape.same) (by kernel_rfl)]
 rw [Lib.run_noEscape]
 simp only [Result.andThen]
 rw [Oper.upon_value]
 go_wp2
 rw [Lib.run_from_unsafe w ⟨b, 0, none⟩ Try.underlying146 Try.underlying73 hj hsh hlies]
 simp only [Result.andThen]
 rw [Oper.upon_value]
 go_wp2
 go_end0
 exact ⟨rfl, rfl⟩
def HasB (T : TypeId) (rest : List Value) : Prop := T ≠ 5 ∧ liesAt Try.prog Try.prog.depth T ((rest.length + 2) / Try.prog.cellsOf T) 0 75 1 = true
theorem hasB75 : HasB 75 [] := ⟨by decide, by kernel_rfl⟩
theorem copyCheck_calls (hT : HasB T rest) (hp : p = .pointer none ∨ p = own b) (h : BAt T rest B b p v bs w) :
  Calls Try.prog 71 #[.pointer (some ⟨b, 0, none⟩)] w fun e w' => e = .returned (.tuple #[]) ∧ BAt T rest B b (own b) v bs w' ∧ KeepB B b w w' := by
 rcases hp with rfl | rfl
 ·refine (copyCheck_fresh b rest.length w (h.cell 0) h.shape (h.frozen 0) hT.2).mono ?_
  rintro e w' ⟨rfl, rfl⟩
  exact ⟨rfl, h.used hT.1 _, (KeepB.refl _ _ _).setCell 0 _⟩
 ·refine (copyCheck_used b w (h.cell 0)).mono ?_
  rintro e w' ⟨rfl, rfl⟩
  exact ⟨rfl, h, KeepB.refl _ _ _⟩
theorem strCells_bytes (s : ByteArray) : Lib.strCells s = Lib.byteCells s.data.toList := by simp [Lib.strCells, Lib.byteCells]
set_option maxHeartbeats 4000000 in
set_option maxRecDepth 100000 in
theorem writeString_calls (hT : HasB T rest) (s : ByteArray) (h : IsB T rest B b bs w) (hlen : bs.length + s.size ≤ 140737488355328) (hBw : B ≤ w.heap.size) :
  Calls Try.prog 44 #[.pointer (some ⟨b, 0, none⟩), .string s] w fun e w' => e = .returned (.tuple #[.int .i64 s.size, .nilIface]) ∧ IsB T rest B b (bs ++ s.data.toList) w' ∧ KeepB B b w w' := by
 obtain ⟨p, v, hp, h⟩ := h
 obtain ⟨i0, hi, hz0, hz1, hz2⟩ := info_parts infoByte
 have HT := Lib.hid hT
 have HP := Lib.hid hp
 clear hp hT
 go_enter Try.func44, Try.ntmps44
 go_wp2_with (go_at_call 71; refine (copyCheck_calls HT.out HP.out h).mono ?_)
 rintro e w1 ⟨rfl, h1, hb1⟩
 have c0 := h1.cell 0
 have c1 := h1.cell 1
 simp only [List.getElem?_cons_zero, List.getElem?_cons_succ] at c0 c1
 have hsz := hb1.size
 have H1 := Lib.hid h1
 clear h h1
 go_wp2_with (at_builtin; refine Lib.wpList_append_own_string _ rfl _ _ 72 9 rfl B 5 i0 Try.underlying72 Try.underlying9 hi hz0 hz1 hz2 _ _ _ rfl H1.out.2.2 s rfl ?c3 ?c4 ?c5 ?_)
 case c3 => unfold maxLen; omega
 case c4 => omega
 case c5 => omega
 intro v' w2 hown' hgrow _
 have hb2 : w2.heap[b]? = some (.cells (own b :: v :: rest).toArray T (0, 0)) := by
  rw [hgrow.block b H1.out.lt (fun e => (H1.out.ne HT.out.1) e.symm)]
  exact H1.out.2.1
 have d1 : w2.cell? ⟨b, 1, none⟩ = some v := by rw [Lib.cell_of_heap hb2]; simp
 have f1 : w2.frozen? ⟨b, 1, none⟩ = false := Lib.frozen_of_heap hb2 1
 have H2 := Lib.hid hb2
 have HO := Lib.hid hown'
 have HG := Lib.hid hgrow
 clear hb2 hown' hgrow
 obtain ⟨ao, n', cap, rfl⟩ : ∃ ao n' cap, v' = .slice ao n' cap := by
  rcases HO.out.2 with ⟨hv, _⟩ | ⟨g, cap, cur, hv, _⟩
  ·exact ⟨_, _, _, hv⟩
  ·exact ⟨_, _, _, hv⟩
 go_wp2
 go_ret2
 have hl : bs.length + s.size = (bs ++ s.data.toList).length := by simp
 refine ⟨rfl, ⟨own b, _, .inr rfl, BAt.put H1.out.1 HT.out.1 H2.out ?_⟩, (hb1.grown H1.out.2.2 HG.out).setCell 1 _⟩
 have := HO.out
 rw [hl, strCells_bytes] at this
 simpa [Lib.byteCells] using this
set_option maxHeartbeats 4000000 in
set_option maxRecDepth 100000 in
theorem writeByte_calls (hT : HasB T rest) (c : UInt8) (h : IsB T rest B b bs w) (hlen : bs.length + 1 ≤ 140737488355328) (hBw : B ≤ w.heap.size) :
  Calls Try.prog 45 #[.pointer (some ⟨b, 0, none⟩), .int .u8 c.toNat] w fun e w' => e = .returned .nilIface ∧ IsB T rest B b (bs ++ [c]) w' ∧ KeepB B b w w' := by
 obtain ⟨p, v, hp, h⟩ := h
 obtain ⟨i0, hi, hz0, hz1, hz2⟩ := info_parts infoByte
 have HT := Lib.hid hT
 have HP := Lib.hid hp
 clear hp hT
 go_enter Try.func45, Try.ntmps45
 go_wp2_with (go_at_call 71; refine (copyCheck_calls HT.out HP.out h).mono ?_)
 rintro e w1 ⟨rfl, h1, hb1⟩
 have c0 := h1.cell 0
 have c1 := h1.cell 1
 simp only [List.getElem?_cons_zero, List.getElem?_cons_succ] at c0 c1
 have hsz := hb1.size
 have H1 := Lib.hid h1
 clear h h1
 go_wp2_with (at_builtin; refine wpList_append_own _ rfl _ _ 72 rfl B 5 i0 (.int .u8 0) 1 1 Try.underlying72 hi hz0 hz1 hz2 rfl (by decide) _ _ _ rfl (H1.out.2.2.alloc _) ⟨w1.heap.size, 0, none⟩ 1 1 [.int .u8 c.toNat] rfl rfl ?c1 ?c2 ?c3 ?c4 ?c5 ?_)
 case c1 =>
  intro j u hj
  match j, hj with
  | 0, hj => simp at hj; subst hj; simp [Addr.add]
 case c2 => intro u hu; simp at hu; subst hu; rfl
 case c3 => unfold maxLen; omega
 case c4 => omega
 case c5 => simp; omega
 intro v' w2 hown' hgrow _
 have hlt := H1.out.lt
 have hb2 : w2.heap[b]? = some (.cells (own b :: v :: rest).toArray T (0, 0)) := by
  rw [hgrow.block b (by simp; omega) (fun e => (H1.out.ne HT.out.1) e.symm), Lib.alloc_old w1 _ b hlt]
  exact H1.out.2.1
 have d1 : w2.cell? ⟨b, 1, none⟩ = some v := by rw [Lib.cell_of_heap hb2]; simp
 have f1 : w2.frozen? ⟨b, 1, none⟩ = false := Lib.frozen_of_heap hb2 1
 have H2 := Lib.hid hb2
 have HO := Lib.hid hown'
 have HG := Lib.hid hgrow
 clear hb2 hown' hgrow
 obtain ⟨ao, n', cap, rfl⟩ : ∃ ao n' cap, v' = .slice ao n' cap := by
  rcases HO.out.2 with ⟨hv, _⟩ | ⟨g, cap, cur, hv, _⟩
  ·exact ⟨_, _, _, hv⟩
  ·exact ⟨_, _, _, hv⟩
 go_wp2
 go_ret
 have hl : bs.length + 1 = (bs ++ [c]).length := by simp
 refine ⟨rfl, ⟨own b, _, .inr rfl, BAt.put H1.out.1 HT.out.1 H2.out ?_⟩, ((hb1.alloc _).grown (H1.out.2.2.alloc _) HG.out).setCell 1 _⟩
 have := HO.out
 rw [hl] at this
 simpa [Lib.byteCells] using this
set_option maxHeartbeats 4000000 in
set_option maxRecDepth 100000 in
theorem string_calls (h : IsB T rest B b bs w) (h0 : bs ≠ []) :
  Calls Try.prog 47 #[.pointer (some ⟨b, 0, none⟩)] w fun e w' => e = .returned (.string ⟨bs.toArray⟩) ∧ Below B w w' := by
 obtain ⟨p, v, hp, h⟩ := h
 have hl0 : bs.length ≠ 0 := by simpa using h0
 have hown := h.2.2
 obtain ⟨g, cap, cur, rfl, hbg, hg, hnc, hcm, hcs, htake⟩ : ∃ g cap cur, v = .slice (some ⟨g, 0, none⟩) bs.length cap ∧ B ≤ g ∧ w.heap[g]? = some (.cells cur 5 (0, 0)) ∧ bs.length ≤ cap ∧ cap ≤ maxLen ∧ cur.size = cap * 1 ∧ cur.toList.take (bs.length * 1) = Lib.byteCells bs := by
  rcases hown.2 with ⟨_, hz⟩ | ⟨g, cap, cur, hv, r⟩
  ·exact absurd hz hl0
  ·exact ⟨g, cap, cur, hv, r⟩
 have c1 : w.drew.cell? ⟨b, 1, none⟩ = some (.slice (some ⟨g, 0, none⟩) bs.length cap) := by
  have := h.cell 1
  simpa using this
 have hSD : (Builtin.unsafeSliceData_ #[72] 120 #[.slice (some ⟨g, 0, none⟩) bs.length cap]).run Try.prog w.drew = .ok (.pointer (some ⟨g, 0, none⟩)) w.drew :=
  Lib.run_unsafeSliceData_row _ _ _ _ _ _ (by omega)
 have hUS : (Builtin.unsafeString_ #[120, 3] 9 #[.pointer (some ⟨g, 0, none⟩), .int .i64 bs.length]).run Try.prog w.drew = .ok (.string ⟨bs.toArray⟩) (w.drew.freeze ⟨g, 0, none⟩ bs.length) := by
  refine Lib.run_unsafeString_row w.drew 120 3 9 5 Try.underlying120 (by kernel_rfl) g cur.size (by have hg' : w.drew.heap[g]? = some (.cells cur 5 (0, 0)) := hg; simp [World.shape?, hg']) bs h0 (by omega) (by unfold maxLen at hcm; omega) ?_
  intro j x hx
  have := hown.cells (g := g) rfl j (.int .u8 x.toNat) (by simp [Lib.byteCells, hx])
  exact this
 clear h hp hown hg hcs htake
 go_enter Try.func47, Try.ntmps47
 go_wp2
 go_region
 all_goals (go_wp2; go_ret; exact ⟨rfl, Lib.below_freeze (Below.drew (Below.refl B w)) (p := ⟨g, 0, none⟩) hbg _⟩)
end Go.Proofs.Ytdjpelcdijpihaa.Print
