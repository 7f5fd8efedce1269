/- A part of the proof of the claim: what it uses of the text HandRefGet. -/
import Derived.Test.YtdjpelcdijpihaaShort
import Derived.Test.YtdjpelcdijpihaaVHandPatchOps
import Derived.Test.YtdjpelcdijpihaaVRefOps
import Derived.Test.YtdjpelcdijpihaaVPrintG7
import Derived.Deep.LoopGhost
namespace Go.Proofs.Ytdjpelcdijpihaa.PrintF
open Go.RowKit Go.Proofs.Ytdjpelcdijpihaa.Print Go.Proofs.YtdjpelcdijpihaaW.PrintWords Go.Proofs.YtdjpelcdijpihaaW.PrintLast Go.Lib
set_option linter.unusedVariables false
set_option linter.unusedSimpArgs false
def C61 (W : World) (g : Nat) (a b c d e : Value) : Prop := W.heap[g]? = some (.cells #[a, b, c, d, e] 61 (0, 0))
abbrev Z61 (W : World) (g : Nat) : Prop := C61 W g (.int .u32 0) (.int .i64 0) (.int .i64 0) (.slice none 0 0) (.string ⟨#[]⟩)
theorem C61.cells {W : World} {g : Nat} {a b c d e : Value} (h : C61 W g a b c d e) : (W.cell? ⟨g, 0, none⟩ = some a ∧ W.cell? ⟨g, 1, none⟩ = some b ∧ W.cell? ⟨g, 2, none⟩ = some c ∧ W.cell? ⟨g, 3, none⟩ = some d ∧ W.cell? ⟨g, 4, none⟩ = some e) ∧
  W.frozen? ⟨g, 0, none⟩ = false ∧ W.frozen? ⟨g, 1, none⟩ = false ∧ W.frozen? ⟨g, 2, none⟩ = false ∧ W.frozen? ⟨g, 3, none⟩ = false ∧ W.frozen? ⟨g, 4, none⟩ = false :=
 ⟨⟨(blk_cell h 0).trans rfl, (blk_cell h 1).trans rfl, (blk_cell h 2).trans rfl, (blk_cell h 3).trans rfl, (blk_cell h 4).trans rfl⟩, blk_frozen h 0, blk_frozen h 1, blk_frozen h 2, blk_frozen h 3, blk_frozen h 4⟩
theorem C61.set {W : World} {g : Nat} {o0 o1 o2 o3 o4 : Value} (a b c d e : Value) (h : C61 W g o0 o1 o2 o3 o4) : C61 (((((W.setCell ⟨g, 0, none⟩ a).setCell ⟨g, 1, none⟩ b).setCell ⟨g, 2, none⟩ c).setCell ⟨g, 3, none⟩ d).setCell ⟨g, 4, none⟩ e) g a b c d e :=
 (blk_set (blk_set (blk_set (blk_set (blk_set h 0 a) 1 b) 2 c) 3 d) 4 e).trans rfl
theorem C61.far {W : World} {g g' : Nat} {o0 o1 o2 o3 o4 : Value} (a b c d e : Value) (h : C61 W g' o0 o1 o2 o3 o4) (hne : g' ≠ g) : C61 (((((W.setCell ⟨g, 0, none⟩ a).setCell ⟨g, 1, none⟩ b).setCell ⟨g, 2, none⟩ c).setCell ⟨g, 3, none⟩ d).setCell ⟨g, 4, none⟩ e) g' o0 o1 o2 o3 o4 :=
 blk_far (blk_far (blk_far (blk_far (blk_far h hne a) hne b) hne c) hne d) hne e
theorem C61.below {W W1 : World} {g : Nat} {a b c d e : Value} (h : C61 W g a b c d e) (hb : Below W.heap.size W W1) : C61 W1 g a b c d e := blk_below h hb
theorem C61.lt {W : World} {g : Nat} {a b c d e : Value} (h : C61 W g a b c d e) : g < W.heap.size := blk_lt h
structure Q0 (w W : World) (gr gn : Nat) : Prop where
 zr : Z61 W gr
 zn : Z61 W gn
 ne : gr ≠ gn
 le : w.heap.size ≤ gr
 ln : w.heap.size ≤ gn
 bel : Below w.heap.size w W
theorem Q0.below {w W W1 : World} {gr gn : Nat} (h : Q0 w W gr gn) (hb : Below W.heap.size W W1) : Q0 w W1 gr gn := ⟨h.zr.below hb, h.zn.below hb, h.ne, h.le, h.ln, below_step h.bel hb⟩
theorem Q0.drewN {w W : World} {gr gn : Nat} (h : Q0 w W gr gn) (n : Nat) : Q0 w (W.drewN n) gr gn := ⟨h.zr, h.zn, h.ne, h.le, h.ln, pw_below_drewN h.bel n⟩
structure Q1 (w W : World) (gr gn g9 : Nat) (s n y v f : Value) : Prop extends Q0 w W gr gn where
 box : C61 W g9 s n y v f
 n9 : gr ≠ g9
 n8 : gn ≠ g9
 l9 : w.heap.size ≤ g9
theorem Q1.start {w W W1 : World} {gr gn g9 : Nat} (s n y v f : Value) (h : Q0 w W gr gn) (hb : Below W.heap.size W W1) (hz : Z61 W1 g9) (h9 : W.heap.size ≤ g9) :
  Q1 w (((((W1.setCell ⟨g9, 0, none⟩ s).setCell ⟨g9, 1, none⟩ n).setCell ⟨g9, 2, none⟩ y).setCell ⟨g9, 3, none⟩ v).setCell ⟨g9, 4, none⟩ f) gr gn g9 s n y v f := by
 have h1 := h.below hb
 have hr : gr ≠ g9 := Nat.ne_of_lt (Nat.lt_of_lt_of_le h.zr.lt h9)
 have hn : gn ≠ g9 := Nat.ne_of_lt (Nat.lt_of_lt_of_le h.zn.lt h9)
 have hl : w.heap.size ≤ g9 := Nat.le_trans h.bel.size h9
 exact ⟨⟨h1.zr.far _ _ _ _ _ hr, h1.zn.far _ _ _ _ _ hn, h.ne, h.le, h.ln, below57 _ _ _ _ _ h1.bel hl⟩, hz.set _ _ _ _ _, hr, hn, hl⟩
structure QI (w : World) (gr gn g9 gc : Nat) (sum len way : Int) (cb : ByteArray) (W : World) (s : PS) (ops : List S107) (v : Value) : Prop extends Q1 w W gr gn g9 (.int .u32 sum) (.int .i64 len) (.int .i64 way) v (.string ⟨#[]⟩) where
 cur : IsS116 w W gc cb (atOf cb s) (erOf s)
 good : Good cb s
 row : Kd.S k107 107 W w.heap.size (fun _ => True) v ops
theorem rat_all (cb : ByteArray) : atOf cb (bs cb, none) = 0 := by
 unfold atOf
 rw [bs_length]
 simp
section
variable {w W W1 : World} {gr gn g9 gc : Nat} {sum len way : Int} {cb : ByteArray} {s s' : PS} {ops xs : List S107} {v v1 : Value}
theorem QI.call (h : QI w gr gn g9 gc sum len way cb W s ops v) (hg : Good cb s') (hi : IsS116 w W1 gc cb (atOf cb s') (erOf s')) (hb : Below w.heap.size w W1) (hk : KeepBut W W1 gc none) : QI w gr gn g9 gc sum len way cb W1 s' ops v :=
 ⟨⟨⟨hk.blk h.zr (IsS116.ne_blk h.cur h.zr (by decide)).symm (by simp), hk.blk h.zn (IsS116.ne_blk h.cur h.zn (by decide)).symm (by simp), h.ne, h.le, h.ln, hb⟩, hk.blk h.box (IsS116.ne_blk h.cur h.box (by decide)).symm (by simp), h.n9, h.n8, h.l9⟩,
  hi, hg, Kd.S_mono (Kd.S_keep (Kd.S_types h.row h.cur.1 (by decide)) hk (fun _ h => h.2)) (fun _ _ => trivial)⟩
theorem QI.drew (h : QI w gr gn g9 gc sum len way cb W s ops v) : QI w gr gn g9 gc sum len way cb W.drew s ops v := ⟨⟨⟨h.zr, h.zn, h.ne, h.le, h.ln, below_drew1 h.bel⟩, h.box, h.n9, h.n8, h.l9⟩, h.cur, h.good, Kd.S_drew h.row⟩
theorem QI.put (h : QI w gr gn g9 gc sum len way cb W s ops v) (hr : Kd.S k107 107 W1 w.heap.size (fun _ => True) v1 xs) (hb : Below w.heap.size W W1) (hg : W.grownBy W1 v.ownBlock) :
  QI w gr gn g9 gc sum len way cb (W1.setCell ⟨g9, 3, none⟩ v1) s xs v1 := by
 have z1 : Z61 W1 gr := blk_grown h.zr hg (Kd.S_ne h.row h.zr (by decide))
 have n1 : Z61 W1 gn := blk_grown h.zn hg (Kd.S_ne h.row h.zn (by decide))
 have b1 := blk_grown h.box hg (Kd.S_ne h.row h.box (by decide))
 have i1 : IsS116 w W1 gc cb (atOf cb s) (erOf s) := ⟨blk_grown h.cur.1 hg (Kd.S_ne h.row h.cur.1 (by decide)), h.cur.2⟩
 exact ⟨⟨⟨blk_far z1 h.n9 _, blk_far n1 h.n8 _, h.ne, h.le, h.ln, below_set (h.bel.trans hb) h.l9⟩, blk_put b1 3 _ rfl, h.n9, h.n8, h.l9⟩, IsS116.far i1 (IsS116.ne_blk i1 b1 (by decide)) _, h.good, Kd.S_set hr b1 (by decide) 3 v1⟩
theorem QI.start (h : Q1 w W gr gn g9 (.int .u32 sum) (.int .i64 len) (.int .i64 way) (.slice none 0 0) (.string ⟨#[]⟩)) (hb : Below W.heap.size W W1) (hc : W1.heap[gc]? = some (.cells #[.string cb, .int .i64 0, .int .i64 0] 116 (0, 0))) (hg : W.heap.size ≤ gc) :
  QI w gr gn g9 gc sum len way cb W1 (bs cb, none) [] (.slice none 0 0) :=
 ⟨⟨h.toQ0.below hb, h.box.below hb, h.n9, h.n8, h.l9⟩, by rw [rat_all]; exact ⟨hc, Nat.le_trans h.bel.size hg⟩, ⟨List.suffix_refl _, fun _ h => by cases h⟩, Kd.S_nil _ _ _ _ _⟩
end
theorem S_res61 {W : World} {g base : Nat} {v : Value} {xs : List S107} {o0 o1 o2 o3 o4 : Value} (a b c d e : Value) (h : Kd.S k107 107 W base (fun _ => True) v xs) (hb : C61 W g o0 o1 o2 o3 o4) :
  Kd.S k107 107 (((((W.setCell ⟨g, 0, none⟩ a).setCell ⟨g, 1, none⟩ b).setCell ⟨g, 2, none⟩ c).setCell ⟨g, 3, none⟩ d).setCell ⟨g, 4, none⟩ e) base (fun _ => True) v xs :=
 Kd.S_mono (Kd.S_move (Kd.S_types h hb (by decide)) (fun k hk => by rw [Below.heap_setCell _ _ _ _ hk.2, Below.heap_setCell _ _ _ _ hk.2, Below.heap_setCell _ _ _ _ hk.2, Below.heap_setCell _ _ _ _ hk.2, Below.heap_setCell _ _ _ _ hk.2])) (fun _ _ => trivial)
section
variable {P : Program} {ops : Array Oper} {Q : Exit → Act → World → Prop} {md : Region.Mode} {S : World → Prop} {last : Nat}
theorem rdu2 (i j : Nat) {o o2 : Oper} (ho : ops[i]? = some o) (ho2 : ops[j]? = some o2) {fuel : Nat} {listed : Array Bool} {a : Act} {w : World}
  (h : ∀ K' : Act → World → Prop, Shut (∀ a w, (i ≠ last → S w) → ((i ≠ last → S w) → wpAnyU P md ops Q S last fuel (listed.setIfInBounds i true) a w) → K' a w) → if Region.wanted o (yielded ops a.tmps) = true then Oper.wp P o a w K' Q else K' (a.put o.dst undef) w)
  (h2 : ∀ K' : Act → World → Prop, Shut (∀ a w, (j ≠ last → S w) → ((j ≠ last → S w) → wpAnyU P md ops Q S last fuel (listed.setIfInBounds j true) a w) → K' a w) → if Region.wanted o2 (yielded ops a.tmps) = true then Oper.wp P o2 a w K' Q else K' (a.put o2.dst undef) w)
  (hr : Region.ready md ops listed = [i, j] := by kernel_rfl) : wpAnyU P md ops Q S last (fuel + 1) listed a w := by
 refine ⟨fun h0 => absurd (hr ▸ h0) (by simp), fun q hq => ?_⟩
 rw [hr] at hq
 rcases List.mem_cons.mp hq with rfl | hq
 ·exact wpOp_step ho (fun K' hK => h K' (fun a w hS hW => hK a w ⟨hS, hW hS⟩))
 ·obtain rfl : q = j := by simpa using hq
  exact wpOp_step ho2 (fun K' hK => h2 K' (fun a w hS hW => hK a w ⟨hS, hW hS⟩))
end
def zeroR (e : Int) : Int × Int × Int × List S107 × ByteArray × Int := (0, 0, 0, [], ⟨#[]⟩, e)
def rList (way : Int) (p : ByteArray) : List S107 × PS := if way = 1 then countP opP (bs p, none) else ([], (bs p, none))
def rTell (sum len way : Int) (r : List S107 × PS) : Int × Int × Int × List S107 × ByteArray × Int := match r.2.2 with
 | some e => zeroR e
 | none => if 0 < r.2.1.length then zeroR 8 else (sum, len, way, r.1, ⟨#[]⟩, 0)
def rBody (sum len way : Int) (p : ByteArray) : Int × Int × Int × List S107 × ByteArray × Int :=
 if 2 < way then zeroR 1 else if way = 2 then (sum, len, way, [], p, 0) else rTell sum len way (rList way p)
def dioramaref24_Get.f (k : Nat) (a0 : ByteArray) : Option (Int × Int × Int × List S107 × ByteArray × Int) :=
 (dioramaref04_Get.f k ⟨#[68, 73, 79, 80]⟩ a0).bind fun r =>
  if r.2.2 ≠ 0 then some (zeroR r.2.2) else if r.1 ≠ 2 then some (zeroR 7) else match r.2.1 with
   | [s0, s1] => if s0.f0 ≠ 1 ∨ s1.f0 ≠ 2 ∨ s0.f1.size ≠ 9 then some (zeroR 4) else
     (dioramaref24_number.f (s0.f1.extract 0 4)).bind fun s => (dioramaref24_number.f (s0.f1.extract 4 8)).bind fun n =>
      if 0 ≤ s ∧ s ≤ 4294967295 then (if s1.f1.size ≤ 1099511627776 then (if 3 * roundsOf s1.f1 ≤ k then some (rBody s n (bt s0.f1 8) s1.f1) else none) else none) else none
   | _ => some (zeroR 4)
set_option maxHeartbeats 8000000 in
set_option maxRecDepth 100000 in
theorem rget_err (k : Nat) (a0 : ByteArray) (w : World) (v : Int) (l : List S52) (er : Int) (hg : dioramaref04_Get.f k ⟨#[68, 73, 79, 80]⟩ a0 = some (v, l, er)) (he : er ≠ 0) :
  Calls Try.prog 40 #[.string a0] w fun e w' => ∃ v_ : Value, e = .returned (.tuple #[.agg #[.int .u32 0, .int .i64 0, .int .i64 0, v_, .string ⟨#[]⟩], .int .i64 er]) ∧ Kd.S k107 107 w' w.heap.size (fun _ => True) v_ ([] : List S107) ∧ Below w.heap.size w w' := by
 have A1 := Aside0.mk hg
 clear hg
 have e1 : (er != 0) = true := bne_iff_ne.mpr he
 go_enter Try.func40, Try.ntmps40
 go_upto_region 2 with (first | ((with_reducible refine gate_dst (N := 2) rfl ?_); refine box_event ?hg (N := 2) ?hd (cs := #[.int .u32 0, .int .i64 0, .int .i64 0, .slice none 0 0, .string ⟨#[]⟩]) (t := 61) ?hr ?_; (case hd => rfl); (case hg => rfl); (case hr => first | (go_simp; done) | (go_simp; rfl)); intro gr hgr w1 hr hb_; have HGR : Hid (w.heap.size ≤ gr) := Lib.hid (by rw [hgr]; exact Nat.le_refl _); have HZR : Hid (Z61 w1 gr) := Lib.hid hr; have HB1 := Lib.hid (below_step (Below.refl w.heap.size w) hb_); clear hgr hr hb_) | ((with_reducible refine gate_dst (N := 4) rfl ?_); refine box_event ?hg (N := 4) ?hd (cs := #[.int .u32 0, .int .i64 0, .int .i64 0, .slice none 0 0, .string ⟨#[]⟩]) (t := 61) ?hr ?_; (case hd => rfl); (case hg => rfl); (case hr => first | (go_simp; done) | (go_simp; rfl)); intro gn hgn w2 hn hb_; have HGN : Hid (w1.heap.size ≤ gn) := Lib.hid (by rw [hgn]; exact Nat.le_refl _); have HZN : Hid (Z61 w2 gn) := Lib.hid hn; have HZ2 := Lib.hid (C61.below HZR.out hb_); have HB2 := Lib.hid (below_step HB1.out hb_); have HLT := Lib.hid HZR.out.lt; clear hgn hn hb_ HZR; obtain ⟨⟨x0, x1, x2, x3, x4⟩, y0, y1, y2, y3, y4⟩ := C61.cells HZN.out))
 have hne : gr ≠ gn := Nat.ne_of_lt (Nat.lt_of_lt_of_le HLT.out HGN.out)
 have hln : w.heap.size ≤ gn := Nat.le_trans HB1.out.size HGN.out
 have QH : Hid (Q0 w (((((w2.setCell ⟨gn, 0, none⟩ (.int .u32 0)).setCell ⟨gn, 1, none⟩ (.int .i64 0)).setCell ⟨gn, 2, none⟩ (.int .i64 0)).setCell ⟨gn, 3, none⟩ (.slice none 0 0)).setCell ⟨gn, 4, none⟩ (.string ⟨#[]⟩)) gr gn) := Lib.hid ⟨C61.far _ _ _ _ _ HZ2.out hne, C61.set _ _ _ _ _ HZN.out, hne, HGR.out, hln, below57 _ _ _ _ _ HB2.out hln⟩
 clear x0 x1 x2 x3 x4 y0 y1 y2 y3 y4 HGR HGN HZN HZ2 HB1 HB2 HLT hne hln
 obtain ⟨W, hW⟩ : ∃ W, W = (((((w2.setCell ⟨gn, 0, none⟩ (.int .u32 0)).setCell ⟨gn, 1, none⟩ (.int .i64 0)).setCell ⟨gn, 2, none⟩ (.int .i64 0)).setCell ⟨gn, 3, none⟩ (.slice none 0 0)).setCell ⟨gn, 4, none⟩ (.string ⟨#[]⟩)) := ⟨_, rfl⟩
 rw [← hW] at QH ⊢
 clear hW
 go_upto_region 3 with (go_at_call 33; (with_reducible refine (dioramaref04_Get.calls k _ a0 v _ er _ A1.out).mono ?_); rintro e w16 ⟨v230, rfl, ho0, hb⟩; have QG := Lib.hid (QH.out.below hb); clear QH hb A1)
 obtain ⟨⟨z0, z1, z2, z3, z4⟩, q0, q1, q2, q3, q4⟩ := C61.cells QG.out.zr
 obtain ⟨⟨x0, x1, x2, x3, x4⟩, y0, y1, y2, y3, y4⟩ := C61.cells QG.out.zn
 go_wp2_with fail
 refine bodyPost_ret (results_ct rfl _ _ gr 61 #[.int .u32 0, .int .i64 0, .int .i64 0, .slice none 0 0, .string ⟨#[]⟩] (0, 0) _ rfl (C61.set _ _ _ _ _ QG.out.zr) Try.underlying61 rfl (by kernel_rfl)) rfl ?_
 exact ⟨_, rfl, Kd.S_nil _ _ _ _ _, below57 _ _ _ _ _ QG.out.bel QG.out.le⟩
set_option maxHeartbeats 8000000 in
set_option maxRecDepth 100000 in
theorem rget_ver (k : Nat) (a0 : ByteArray) (w : World) (v : Int) (l : List S52) (er : Int) (hg : dioramaref04_Get.f k ⟨#[68, 73, 79, 80]⟩ a0 = some (v, l, er)) (he : er = 0) (hv : v ≠ 2) :
  Calls Try.prog 40 #[.string a0] w fun e w' => ∃ v_ : Value, e = .returned (.tuple #[.agg #[.int .u32 0, .int .i64 0, .int .i64 0, v_, .string ⟨#[]⟩], .int .i64 7]) ∧ Kd.S k107 107 w' w.heap.size (fun _ => True) v_ ([] : List S107) ∧ Below w.heap.size w w' := by
 have A1 := Aside0.mk hg
 clear hg
 have e1 : (er != 0) = false := bne_eq_false_iff_eq.mpr he
 have e2 : (v != 2) = true := bne_iff_ne.mpr hv
 go_enter Try.func40, Try.ntmps40
 go_upto_region 2 with (first | ((with_reducible refine gate_dst (N := 2) rfl ?_); refine box_event ?hg (N := 2) ?hd (cs := #[.int .u32 0, .int .i64 0, .int .i64 0, .slice none 0 0, .string ⟨#[]⟩]) (t := 61) ?hr ?_; (case hd => rfl); (case hg => rfl); (case hr => first | (go_simp; done) | (go_simp; rfl)); intro gr hgr w1 hr hb_; have HGR : Hid (w.heap.size ≤ gr) := Lib.hid (by rw [hgr]; exact Nat.le_refl _); have HZR : Hid (Z61 w1 gr) := Lib.hid hr; have HB1 := Lib.hid (below_step (Below.refl w.heap.size w) hb_); clear hgr hr hb_) | ((with_reducible refine gate_dst (N := 4) rfl ?_); refine box_event ?hg (N := 4) ?hd (cs := #[.int .u32 0, .int .i64 0, .int .i64 0, .slice none 0 0, .string ⟨#[]⟩]) (t := 61) ?hr ?_; (case hd => rfl); (case hg => rfl); (case hr => first | (go_simp; done) | (go_simp; rfl)); intro gn hgn w2 hn hb_; have HGN : Hid (w1.heap.size ≤ gn) := Lib.hid (by rw [hgn]; exact Nat.le_refl _); have HZN : Hid (Z61 w2 gn) := Lib.hid hn; have HZ2 := Lib.hid (C61.below HZR.out hb_); have HB2 := Lib.hid (below_step HB1.out hb_); have HLT := Lib.hid HZR.out.lt; clear hgn hn hb_ HZR; obtain ⟨⟨x0, x1, x2, x3, x4⟩, y0, y1, y2, y3, y4⟩ := C61.cells HZN.out))
 have hne : gr ≠ gn := Nat.ne_of_lt (Nat.lt_of_lt_of_le HLT.out HGN.out)
 have hln : w.heap.size ≤ gn := Nat.le_trans HB1.out.size HGN.out
 have QH : Hid (Q0 w (((((w2.setCell ⟨gn, 0, none⟩ (.int .u32 0)).setCell ⟨gn, 1, none⟩ (.int .i64 0)).setCell ⟨gn, 2, none⟩ (.int .i64 0)).setCell ⟨gn, 3, none⟩ (.slice none 0 0)).setCell ⟨gn, 4, none⟩ (.string ⟨#[]⟩)) gr gn) := Lib.hid ⟨C61.far _ _ _ _ _ HZ2.out hne, C61.set _ _ _ _ _ HZN.out, hne, HGR.out, hln, below57 _ _ _ _ _ HB2.out hln⟩
 clear x0 x1 x2 x3 x4 y0 y1 y2 y3 y4 HGR HGN HZN HZ2 HB1 HB2 HLT hne hln
 obtain ⟨W, hW⟩ : ∃ W, W = (((((w2.setCell ⟨gn, 0, none⟩ (.int .u32 0)).setCell ⟨gn, 1, none⟩ (.int .i64 0)).setCell ⟨gn, 2, none⟩ (.int .i64 0)).setCell ⟨gn, 3, none⟩ (.slice none 0 0)).setCell ⟨gn, 4, none⟩ (.string ⟨#[]⟩)) := ⟨_, rfl⟩
 rw [← hW] at QH ⊢
 clear hW
 go_upto_region 3 with (go_at_call 33; (with_reducible refine (dioramaref04_Get.calls k _ a0 v _ er _ A1.out).mono ?_); rintro e w16 ⟨v230, rfl, ho0, hb⟩; have QG := Lib.hid (QH.out.below hb); clear QH hb A1)
 obtain ⟨⟨z0, z1, z2, z3, z4⟩, q0, q1, q2, q3, q4⟩ := C61.cells QG.out.zr
 obtain ⟨⟨x0, x1, x2, x3, x4⟩, y0, y1, y2, y3, y4⟩ := C61.cells QG.out.zn
 go_wp2_with fail
 refine bodyPost_ret (results_ct rfl _ _ gr 61 #[.int .u32 0, .int .i64 0, .int .i64 0, .slice none 0 0, .string ⟨#[]⟩] (0, 0) _ rfl (C61.set _ _ _ _ _ QG.out.zr) Try.underlying61 rfl (by kernel_rfl)) rfl ?_
 exact ⟨_, rfl, Kd.S_nil _ _ _ _ _, below57 _ _ _ _ _ QG.out.bel QG.out.le⟩
set_option maxHeartbeats 8000000 in
set_option maxRecDepth 100000 in
theorem rget_len (k : Nat) (a0 : ByteArray) (w : World) (v : Int) (l : List S52) (er : Int) (hg : dioramaref04_Get.f k ⟨#[68, 73, 79, 80]⟩ a0 = some (v, l, er)) (he : er = 0) (hv : v = 2) (hl : l.length ≠ 2) :
  Calls Try.prog 40 #[.string a0] w fun e w' => ∃ v_ : Value, e = .returned (.tuple #[.agg #[.int .u32 0, .int .i64 0, .int .i64 0, v_, .string ⟨#[]⟩], .int .i64 4]) ∧ Kd.S k107 107 w' w.heap.size (fun _ => True) v_ ([] : List S107) ∧ Below w.heap.size w w' := by
 have A1 := Aside0.mk hg
 clear hg
 have e1 : (er != 0) = false := bne_eq_false_iff_eq.mpr he
 have e2 : (v != 2) = false := bne_eq_false_iff_eq.mpr hv
 have e3 : ((l.length : Int) != 2) = true := bne_iff_ne.mpr (by omega)
 clear he hv hl
 go_enter Try.func40, Try.ntmps40
 go_upto_region 2 with (first | ((with_reducible refine gate_dst (N := 2) rfl ?_); refine box_event ?hg (N := 2) ?hd (cs := #[.int .u32 0, .int .i64 0, .int .i64 0, .slice none 0 0, .string ⟨#[]⟩]) (t := 61) ?hr ?_; (case hd => rfl); (case hg => rfl); (case hr => first | (go_simp; done) | (go_simp; rfl)); intro gr hgr w1 hr hb_; have HGR : Hid (w.heap.size ≤ gr) := Lib.hid (by rw [hgr]; exact Nat.le_refl _); have HZR : Hid (Z61 w1 gr) := Lib.hid hr; have HB1 := Lib.hid (below_step (Below.refl w.heap.size w) hb_); clear hgr hr hb_) | ((with_reducible refine gate_dst (N := 4) rfl ?_); refine box_event ?hg (N := 4) ?hd (cs := #[.int .u32 0, .int .i64 0, .int .i64 0, .slice none 0 0, .string ⟨#[]⟩]) (t := 61) ?hr ?_; (case hd => rfl); (case hg => rfl); (case hr => first | (go_simp; done) | (go_simp; rfl)); intro gn hgn w2 hn hb_; have HGN : Hid (w1.heap.size ≤ gn) := Lib.hid (by rw [hgn]; exact Nat.le_refl _); have HZN : Hid (Z61 w2 gn) := Lib.hid hn; have HZ2 := Lib.hid (C61.below HZR.out hb_); have HB2 := Lib.hid (below_step HB1.out hb_); have HLT := Lib.hid HZR.out.lt; clear hgn hn hb_ HZR; obtain ⟨⟨x0, x1, x2, x3, x4⟩, y0, y1, y2, y3, y4⟩ := C61.cells HZN.out))
 have hne : gr ≠ gn := Nat.ne_of_lt (Nat.lt_of_lt_of_le HLT.out HGN.out)
 have hln : w.heap.size ≤ gn := Nat.le_trans HB1.out.size HGN.out
 have QH : Hid (Q0 w (((((w2.setCell ⟨gn, 0, none⟩ (.int .u32 0)).setCell ⟨gn, 1, none⟩ (.int .i64 0)).setCell ⟨gn, 2, none⟩ (.int .i64 0)).setCell ⟨gn, 3, none⟩ (.slice none 0 0)).setCell ⟨gn, 4, none⟩ (.string ⟨#[]⟩)) gr gn) := Lib.hid ⟨C61.far _ _ _ _ _ HZ2.out hne, C61.set _ _ _ _ _ HZN.out, hne, HGR.out, hln, below57 _ _ _ _ _ HB2.out hln⟩
 clear x0 x1 x2 x3 x4 y0 y1 y2 y3 y4 HGR HGN HZN HZ2 HB1 HB2 HLT hne hln
 obtain ⟨W, hW⟩ : ∃ W, W = (((((w2.setCell ⟨gn, 0, none⟩ (.int .u32 0)).setCell ⟨gn, 1, none⟩ (.int .i64 0)).setCell ⟨gn, 2, none⟩ (.int .i64 0)).setCell ⟨gn, 3, none⟩ (.slice none 0 0)).setCell ⟨gn, 4, none⟩ (.string ⟨#[]⟩)) := ⟨_, rfl⟩
 rw [← hW] at QH ⊢
 clear hW
 go_upto_region 3 with (go_at_call 33; (with_reducible refine (dioramaref04_Get.calls k _ a0 v _ er _ A1.out).mono ?_); rintro e w16 ⟨v230, rfl, ho0, hb⟩; have QG := Lib.hid (QH.out.below hb); clear QH hb A1)
 obtain ⟨⟨z0, z1, z2, z3, z4⟩, q0, q1, q2, q3, q4⟩ := C61.cells QG.out.zr
 obtain ⟨⟨x0, x1, x2, x3, x4⟩, y0, y1, y2, y3, y4⟩ := C61.cells QG.out.zn
 obtain ⟨A5, c5, rfl⟩ := Kd.R_slice ho0
 go_wp2_with fail
 refine bodyPost_ret (results_ct rfl _ _ gr 61 #[.int .u32 0, .int .i64 0, .int .i64 0, .slice none 0 0, .string ⟨#[]⟩] (0, 0) _ rfl (C61.set _ _ _ _ _ QG.out.zr) Try.underlying61 rfl (by kernel_rfl)) rfl ?_
 exact ⟨_, rfl, Kd.S_nil _ _ _ _ _, below57 _ _ _ _ _ QG.out.bel QG.out.le⟩
set_option maxHeartbeats 8000000 in
set_option maxRecDepth 100000 in
theorem rget_id0 (k : Nat) (a0 : ByteArray) (w : World) (v : Int) (l : List S52) (er : Int) (hg : dioramaref04_Get.f k ⟨#[68, 73, 79, 80]⟩ a0 = some (v, l, er)) (he : er = 0) (hv : v = 2) (s0 s1 : S52) (hl : l = [s0, s1]) (h0 : s0.f0 ≠ 1) :
  Calls Try.prog 40 #[.string a0] w fun e w' => ∃ v_ : Value, e = .returned (.tuple #[.agg #[.int .u32 0, .int .i64 0, .int .i64 0, v_, .string ⟨#[]⟩], .int .i64 4]) ∧ Kd.S k107 107 w' w.heap.size (fun _ => True) v_ ([] : List S107) ∧ Below w.heap.size w w' := by
 have A1 := Aside0.mk hg
 clear hg
 subst hl
 have e1 : (er != 0) = false := bne_eq_false_iff_eq.mpr he
 have e2 : (v != 2) = false := bne_eq_false_iff_eq.mpr hv
 have e4 : (s0.f0 != 1) = true := bne_iff_ne.mpr h0
 clear he hv
 go_enter Try.func40, Try.ntmps40
 go_upto_region 2 with (first | ((with_reducible refine gate_dst (N := 2) rfl ?_); refine box_event ?hg (N := 2) ?hd (cs := #[.int .u32 0, .int .i64 0, .int .i64 0, .slice none 0 0, .string ⟨#[]⟩]) (t := 61) ?hr ?_; (case hd => rfl); (case hg => rfl); (case hr => first | (go_simp; done) | (go_simp; rfl)); intro gr hgr w1 hr hb_; have HGR : Hid (w.heap.size ≤ gr) := Lib.hid (by rw [hgr]; exact Nat.le_refl _); have HZR : Hid (Z61 w1 gr) := Lib.hid hr; have HB1 := Lib.hid (below_step (Below.refl w.heap.size w) hb_); clear hgr hr hb_) | ((with_reducible refine gate_dst (N := 4) rfl ?_); refine box_event ?hg (N := 4) ?hd (cs := #[.int .u32 0, .int .i64 0, .int .i64 0, .slice none 0 0, .string ⟨#[]⟩]) (t := 61) ?hr ?_; (case hd => rfl); (case hg => rfl); (case hr => first | (go_simp; done) | (go_simp; rfl)); intro gn hgn w2 hn hb_; have HGN : Hid (w1.heap.size ≤ gn) := Lib.hid (by rw [hgn]; exact Nat.le_refl _); have HZN : Hid (Z61 w2 gn) := Lib.hid hn; have HZ2 := Lib.hid (C61.below HZR.out hb_); have HB2 := Lib.hid (below_step HB1.out hb_); have HLT := Lib.hid HZR.out.lt; clear hgn hn hb_ HZR; obtain ⟨⟨x0, x1, x2, x3, x4⟩, y0, y1, y2, y3, y4⟩ := C61.cells HZN.out))
 have hne : gr ≠ gn := Nat.ne_of_lt (Nat.lt_of_lt_of_le HLT.out HGN.out)
 have hln : w.heap.size ≤ gn := Nat.le_trans HB1.out.size HGN.out
 have QH : Hid (Q0 w (((((w2.setCell ⟨gn, 0, none⟩ (.int .u32 0)).setCell ⟨gn, 1, none⟩ (.int .i64 0)).setCell ⟨gn, 2, none⟩ (.int .i64 0)).setCell ⟨gn, 3, none⟩ (.slice none 0 0)).setCell ⟨gn, 4, none⟩ (.string ⟨#[]⟩)) gr gn) := Lib.hid ⟨C61.far _ _ _ _ _ HZ2.out hne, C61.set _ _ _ _ _ HZN.out, hne, HGR.out, hln, below57 _ _ _ _ _ HB2.out hln⟩
 clear x0 x1 x2 x3 x4 y0 y1 y2 y3 y4 HGR HGN HZN HZ2 HB1 HB2 HLT hne hln
 obtain ⟨W, hW⟩ : ∃ W, W = (((((w2.setCell ⟨gn, 0, none⟩ (.int .u32 0)).setCell ⟨gn, 1, none⟩ (.int .i64 0)).setCell ⟨gn, 2, none⟩ (.int .i64 0)).setCell ⟨gn, 3, none⟩ (.slice none 0 0)).setCell ⟨gn, 4, none⟩ (.string ⟨#[]⟩)) := ⟨_, rfl⟩
 rw [← hW] at QH ⊢
 clear hW
 go_upto_region 3 with (go_at_call 33; (with_reducible refine (dioramaref04_Get.calls k _ a0 v _ er _ A1.out).mono ?_); rintro e w16 ⟨v230, rfl, ho0, hb⟩; have QG := Lib.hid (QH.out.below hb); clear QH hb A1)
 obtain ⟨⟨z0, z1, z2, z3, z4⟩, q0, q1, q2, q3, q4⟩ := C61.cells QG.out.zr
 obtain ⟨⟨x0, x1, x2, x3, x4⟩, y0, y1, y2, y3, y4⟩ := C61.cells QG.out.zn
 obtain ⟨ad, c5, rfl, hc5, p0, p1, p2, p3⟩ := two_cells ho0
 go_wp2_with fail
 refine bodyPost_ret (results_ct rfl _ _ gr 61 #[.int .u32 0, .int .i64 0, .int .i64 0, .slice none 0 0, .string ⟨#[]⟩] (0, 0) _ rfl (C61.set _ _ _ _ _ QG.out.zr) Try.underlying61 rfl (by kernel_rfl)) rfl ?_
 exact ⟨_, rfl, Kd.S_nil _ _ _ _ _, below57 _ _ _ _ _ QG.out.bel QG.out.le⟩
set_option maxHeartbeats 8000000 in
set_option maxRecDepth 100000 in
theorem rget_id1 (k : Nat) (a0 : ByteArray) (w : World) (v : Int) (l : List S52) (er : Int) (hg : dioramaref04_Get.f k ⟨#[68, 73, 79, 80]⟩ a0 = some (v, l, er)) (he : er = 0) (hv : v = 2) (s0 s1 : S52) (hl : l = [s0, s1]) (h0 : s0.f0 = 1) (h1 : s1.f0 ≠ 2) :
  Calls Try.prog 40 #[.string a0] w fun e w' => ∃ v_ : Value, e = .returned (.tuple #[.agg #[.int .u32 0, .int .i64 0, .int .i64 0, v_, .string ⟨#[]⟩], .int .i64 4]) ∧ Kd.S k107 107 w' w.heap.size (fun _ => True) v_ ([] : List S107) ∧ Below w.heap.size w w' := by
 have A1 := Aside0.mk hg
 clear hg
 subst hl
 have e1 : (er != 0) = false := bne_eq_false_iff_eq.mpr he
 have e2 : (v != 2) = false := bne_eq_false_iff_eq.mpr hv
 have e4 : (s0.f0 != 1) = false := bne_eq_false_iff_eq.mpr h0
 have e5 : (s1.f0 != 2) = true := bne_iff_ne.mpr h1
 clear he hv h0
 go_enter Try.func40, Try.ntmps40
 go_upto_region 2 with (first | ((with_reducible refine gate_dst (N := 2) rfl ?_); refine box_event ?hg (N := 2) ?hd (cs := #[.int .u32 0, .int .i64 0, .int .i64 0, .slice none 0 0, .string ⟨#[]⟩]) (t := 61) ?hr ?_; (case hd => rfl); (case hg => rfl); (case hr => first | (go_simp; done) | (go_simp; rfl)); intro gr hgr w1 hr hb_; have HGR : Hid (w.heap.size ≤ gr) := Lib.hid (by rw [hgr]; exact Nat.le_refl _); have HZR : Hid (Z61 w1 gr) := Lib.hid hr; have HB1 := Lib.hid (below_step (Below.refl w.heap.size w) hb_); clear hgr hr hb_) | ((with_reducible refine gate_dst (N := 4) rfl ?_); refine box_event ?hg (N := 4) ?hd (cs := #[.int .u32 0, .int .i64 0, .int .i64 0, .slice none 0 0, .string ⟨#[]⟩]) (t := 61) ?hr ?_; (case hd => rfl); (case hg => rfl); (case hr => first | (go_simp; done) | (go_simp; rfl)); intro gn hgn w2 hn hb_; have HGN : Hid (w1.heap.size ≤ gn) := Lib.hid (by rw [hgn]; exact Nat.le_refl _); have HZN : Hid (Z61 w2 gn) := Lib.hid hn; have HZ2 := Lib.hid (C61.below HZR.out hb_); have HB2 := Lib.hid (below_step HB1.out hb_); have HLT := Lib.hid HZR.out.lt; clear hgn hn hb_ HZR; obtain ⟨⟨x0, x1, x2, x3, x4⟩, y0, y1, y2, y3, y4⟩ := C61.cells HZN.out))
 have hne : gr ≠ gn := Nat.ne_of_lt (Nat.lt_of_lt_of_le HLT.out HGN.out)
 have hln : w.heap.size ≤ gn := Nat.le_trans HB1.out.size HGN.out
 have QH : Hid (Q0 w (((((w2.setCell ⟨gn, 0, none⟩ (.int .u32 0)).setCell ⟨gn, 1, none⟩ (.int .i64 0)).setCell ⟨gn, 2, none⟩ (.int .i64 0)).setCell ⟨gn, 3, none⟩ (.slice none 0 0)).setCell ⟨gn, 4, none⟩ (.string ⟨#[]⟩)) gr gn) := Lib.hid ⟨C61.far _ _ _ _ _ HZ2.out hne, C61.set _ _ _ _ _ HZN.out, hne, HGR.out, hln, below57 _ _ _ _ _ HB2.out hln⟩
 clear x0 x1 x2 x3 x4 y0 y1 y2 y3 y4 HGR HGN HZN HZ2 HB1 HB2 HLT hne hln
 obtain ⟨W, hW⟩ : ∃ W, W = (((((w2.setCell ⟨gn, 0, none⟩ (.int .u32 0)).setCell ⟨gn, 1, none⟩ (.int .i64 0)).setCell ⟨gn, 2, none⟩ (.int .i64 0)).setCell ⟨gn, 3, none⟩ (.slice none 0 0)).setCell ⟨gn, 4, none⟩ (.string ⟨#[]⟩)) := ⟨_, rfl⟩
 rw [← hW] at QH ⊢
 clear hW
 go_upto_region 3 with (go_at_call 33; (with_reducible refine (dioramaref04_Get.calls k _ a0 v _ er _ A1.out).mono ?_); rintro e w16 ⟨v230, rfl, ho0, hb⟩; have QG := Lib.hid (QH.out.below hb); clear QH hb A1)
 obtain ⟨⟨z0, z1, z2, z3, z4⟩, q0, q1, q2, q3, q4⟩ := C61.cells QG.out.zr
 obtain ⟨⟨x0, x1, x2, x3, x4⟩, y0, y1, y2, y3, y4⟩ := C61.cells QG.out.zn
 obtain ⟨ad, c5, rfl, hc5, p0, p1, p2, p3⟩ := two_cells ho0
 go_wp2_with fail
 refine bodyPost_ret (results_ct rfl _ _ gr 61 #[.int .u32 0, .int .i64 0, .int .i64 0, .slice none 0 0, .string ⟨#[]⟩] (0, 0) _ rfl (C61.set _ _ _ _ _ QG.out.zr) Try.underlying61 rfl (by kernel_rfl)) rfl ?_
 exact ⟨_, rfl, Kd.S_nil _ _ _ _ _, below57 _ _ _ _ _ QG.out.bel QG.out.le⟩
set_option maxHeartbeats 8000000 in
set_option maxRecDepth 100000 in
theorem rget_size (k : Nat) (a0 : ByteArray) (w : World) (v : Int) (l : List S52) (er : Int) (hg : dioramaref04_Get.f k ⟨#[68, 73, 79, 80]⟩ a0 = some (v, l, er)) (he : er = 0) (hv : v = 2) (s0 s1 : S52) (hl : l = [s0, s1]) (h0 : s0.f0 = 1) (h1 : s1.f0 = 2) (h9 : s0.f1.size ≠ 9) :
  Calls Try.prog 40 #[.string a0] w fun e w' => ∃ v_ : Value, e = .returned (.tuple #[.agg #[.int .u32 0, .int .i64 0, .int .i64 0, v_, .string ⟨#[]⟩], .int .i64 4]) ∧ Kd.S k107 107 w' w.heap.size (fun _ => True) v_ ([] : List S107) ∧ Below w.heap.size w w' := by
 have A1 := Aside0.mk hg
 clear hg
 subst hl
 have e1 : (er != 0) = false := bne_eq_false_iff_eq.mpr he
 have e2 : (v != 2) = false := bne_eq_false_iff_eq.mpr hv
 have e4 : (s0.f0 != 1) = false := bne_eq_false_iff_eq.mpr h0
 have e5 : (s1.f0 != 2) = false := bne_eq_false_iff_eq.mpr h1
 have e6 : ((s0.f1.size : Int) != 9) = true := bne_iff_ne.mpr (by omega)
 clear he hv h0 h1
 go_enter Try.func40, Try.ntmps40
 go_upto_region 2 with (first | ((with_reducible refine gate_dst (N := 2) rfl ?_); refine box_event ?hg (N := 2) ?hd (cs := #[.int .u32 0, .int .i64 0, .int .i64 0, .slice none 0 0, .string ⟨#[]⟩]) (t := 61) ?hr ?_; (case hd => rfl); (case hg => rfl); (case hr => first | (go_simp; done) | (go_simp; rfl)); intro gr hgr w1 hr hb_; have HGR : Hid (w.heap.size ≤ gr) := Lib.hid (by rw [hgr]; exact Nat.le_refl _); have HZR : Hid (Z61 w1 gr) := Lib.hid hr; have HB1 := Lib.hid (below_step (Below.refl w.heap.size w) hb_); clear hgr hr hb_) | ((with_reducible refine gate_dst (N := 4) rfl ?_); refine box_event ?hg (N := 4) ?hd (cs := #[.int .u32 0, .int .i64 0, .int .i64 0, .slice none 0 0, .string ⟨#[]⟩]) (t := 61) ?hr ?_; (case hd => rfl); (case hg => rfl); (case hr => first | (go_simp; done) | (go_simp; rfl)); intro gn hgn w2 hn hb_; have HGN : Hid (w1.heap.size ≤ gn) := Lib.hid (by rw [hgn]; exact Nat.le_refl _); have HZN : Hid (Z61 w2 gn) := Lib.hid hn; have HZ2 := Lib.hid (C61.below HZR.out hb_); have HB2 := Lib.hid (below_step HB1.out hb_); have HLT := Lib.hid HZR.out.lt; clear hgn hn hb_ HZR; obtain ⟨⟨x0, x1, x2, x3, x4⟩, y0, y1, y2, y3, y4⟩ := C61.cells HZN.out))
 have hne : gr ≠ gn := Nat.ne_of_lt (Nat.lt_of_lt_of_le HLT.out HGN.out)
 have hln : w.heap.size ≤ gn := Nat.le_trans HB1.out.size HGN.out
 have QH : Hid (Q0 w (((((w2.setCell ⟨gn, 0, none⟩ (.int .u32 0)).setCell ⟨gn, 1, none⟩ (.int .i64 0)).setCell ⟨gn, 2, none⟩ (.int .i64 0)).setCell ⟨gn, 3, none⟩ (.slice none 0 0)).setCell ⟨gn, 4, none⟩ (.string ⟨#[]⟩)) gr gn) := Lib.hid ⟨C61.far _ _ _ _ _ HZ2.out hne, C61.set _ _ _ _ _ HZN.out, hne, HGR.out, hln, below57 _ _ _ _ _ HB2.out hln⟩
 clear x0 x1 x2 x3 x4 y0 y1 y2 y3 y4 HGR HGN HZN HZ2 HB1 HB2 HLT hne hln
 obtain ⟨W, hW⟩ : ∃ W, W = (((((w2.setCell ⟨gn, 0, none⟩ (.int .u32 0)).setCell ⟨gn, 1, none⟩ (.int .i64 0)).setCell ⟨gn, 2, none⟩ (.int .i64 0)).setCell ⟨gn, 3, none⟩ (.slice none 0 0)).setCell ⟨gn, 4, none⟩ (.string ⟨#[]⟩)) := ⟨_, rfl⟩
 rw [← hW] at QH ⊢
 clear hW
 go_upto_region 3 with (go_at_call 33; (with_reducible refine (dioramaref04_Get.calls k _ a0 v _ er _ A1.out).mono ?_); rintro e w16 ⟨v230, rfl, ho0, hb⟩; have QG := Lib.hid (QH.out.below hb); clear QH hb A1)
 obtain ⟨⟨z0, z1, z2, z3, z4⟩, q0, q1, q2, q3, q4⟩ := C61.cells QG.out.zr
 obtain ⟨⟨x0, x1, x2, x3, x4⟩, y0, y1, y2, y3, y4⟩ := C61.cells QG.out.zn
 obtain ⟨ad, c5, rfl, hc5, p0, p1, p2, p3⟩ := two_cells ho0
 go_wp2_with fail
 refine bodyPost_ret (results_ct rfl _ _ gr 61 #[.int .u32 0, .int .i64 0, .int .i64 0, .slice none 0 0, .string ⟨#[]⟩] (0, 0) _ rfl (C61.set _ _ _ _ _ QG.out.zr) Try.underlying61 rfl (by kernel_rfl)) rfl ?_
 exact ⟨_, rfl, Kd.S_nil _ _ _ _ _, below57 _ _ _ _ _ QG.out.bel QG.out.le⟩
set_option maxHeartbeats 8000000 in
set_option maxRecDepth 100000 in
theorem rget_good (k : Nat) (a0 : ByteArray) (w : World) (v : Int) (l : List S52) (er : Int) (hg : dioramaref04_Get.f k ⟨#[68, 73, 79, 80]⟩ a0 = some (v, l, er)) (he : er = 0) (hv : v = 2) (s0 s1 : S52) (hl : l = [s0, s1]) (h0 : s0.f0 = 1) (h1 : s1.f0 = 2) (h9 : s0.f1.size = 9) (sum len way : Int) (hs : dioramaref24_number.f (s0.f1.extract 0 4) = some sum) (hn : dioramaref24_number.f (s0.f1.extract 4 8) = some len) (hs1 : 0 ≤ sum ∧ sum ≤ 4294967295) (hway : bt s0.f1 8 = way) (hsz : s1.f1.size ≤ 1099511627776) (hkk : 3 * roundsOf s1.f1 ≤ k) (r : Int × Int × Int × List S107 × ByteArray × Int) (hr : rBody sum len way s1.f1 = r) :
  Calls Try.prog 40 #[.string a0] w fun e w' => ∃ v_ : Value, e = .returned (.tuple #[.agg #[.int .u32 r.1, .int .i64 r.2.1, .int .i64 r.2.2.1, v_, .string r.2.2.2.2.1], .int .i64 r.2.2.2.2.2]) ∧ Kd.S k107 107 w' w.heap.size (fun _ => True) v_ r.2.2.2.1 ∧ Below w.heap.size w w' := by
 have A1 := Aside0.mk hg
 clear hg
 subst hl
 have e1 : (er != 0) = false := bne_eq_false_iff_eq.mpr he
 have e2 : (v != 2) = false := bne_eq_false_iff_eq.mpr hv
 have A2 := Aside0.mk hs
 have A3 := Aside0.mk hn
 have HR := Lib.hid hr
 have HSZ := Lib.hid hsz
 have HKK := Lib.hid hkk
 clear hs hn hr hsz hkk
 have e4 : (s0.f0 != 1) = false := bne_eq_false_iff_eq.mpr h0
 have e5 : (s1.f0 != 2) = false := bne_eq_false_iff_eq.mpr h1
 have e6 : ((s0.f1.size : Int) != 9) = false := bne_eq_false_iff_eq.mpr (by omega)
 have e7 : (s0.f1.size : Int) = 9 := by omega
 have e8 : ∀ h : 8 < s0.f1.size, ((s0.f1[8]'h).toNat : Int) = way := by rw [← hway]; exact bt_at s0.f1 8
 have hw0 : wrap64 way = way := by rw [← hway]; have := bt_range s0.f1 8; unfold wrap64; omega
 have hu1 : IntKind.i64.wrap way = way := by have h_ := bt_range s0.f1 8; rw [hway] at h_; rw [IntKind.wrap_i64]; omega
 have hu0 : IntKind.u32.wrap sum = sum := by rw [IntKind.wrap_u32]; omega
 clear h0 h1 hway he hv hs1
 go_enter Try.func40, Try.ntmps40
 go_upto_region 2 with (first | ((with_reducible refine gate_dst (N := 2) rfl ?_); refine box_event ?hg (N := 2) ?hd (cs := #[.int .u32 0, .int .i64 0, .int .i64 0, .slice none 0 0, .string ⟨#[]⟩]) (t := 61) ?hr ?_; (case hd => rfl); (case hg => rfl); (case hr => first | (go_simp; done) | (go_simp; rfl)); intro gr hgr w1 hr hb_; have HGR : Hid (w.heap.size ≤ gr) := Lib.hid (by rw [hgr]; exact Nat.le_refl _); have HZR : Hid (Z61 w1 gr) := Lib.hid hr; have HB1 := Lib.hid (below_step (Below.refl w.heap.size w) hb_); clear hgr hr hb_) | ((with_reducible refine gate_dst (N := 4) rfl ?_); refine box_event ?hg (N := 4) ?hd (cs := #[.int .u32 0, .int .i64 0, .int .i64 0, .slice none 0 0, .string ⟨#[]⟩]) (t := 61) ?hr ?_; (case hd => rfl); (case hg => rfl); (case hr => first | (go_simp; done) | (go_simp; rfl)); intro gn hgn w2 hn hb_; have HGN : Hid (w1.heap.size ≤ gn) := Lib.hid (by rw [hgn]; exact Nat.le_refl _); have HZN : Hid (Z61 w2 gn) := Lib.hid hn; have HZ2 := Lib.hid (C61.below HZR.out hb_); have HB2 := Lib.hid (below_step HB1.out hb_); have HLT := Lib.hid HZR.out.lt; clear hgn hn hb_ HZR; obtain ⟨⟨x0, x1, x2, x3, x4⟩, y0, y1, y2, y3, y4⟩ := C61.cells HZN.out))
 have hne : gr ≠ gn := Nat.ne_of_lt (Nat.lt_of_lt_of_le HLT.out HGN.out)
 have hln : w.heap.size ≤ gn := Nat.le_trans HB1.out.size HGN.out
 have QH : Hid (Q0 w (((((w2.setCell ⟨gn, 0, none⟩ (.int .u32 0)).setCell ⟨gn, 1, none⟩ (.int .i64 0)).setCell ⟨gn, 2, none⟩ (.int .i64 0)).setCell ⟨gn, 3, none⟩ (.slice none 0 0)).setCell ⟨gn, 4, none⟩ (.string ⟨#[]⟩)) gr gn) := Lib.hid ⟨C61.far _ _ _ _ _ HZ2.out hne, C61.set _ _ _ _ _ HZN.out, hne, HGR.out, hln, below57 _ _ _ _ _ HB2.out hln⟩
 clear x0 x1 x2 x3 x4 y0 y1 y2 y3 y4 HGR HGN HZN HZ2 HB1 HB2 HLT hne hln
 obtain ⟨W, hW⟩ : ∃ W, W = (((((w2.setCell ⟨gn, 0, none⟩ (.int .u32 0)).setCell ⟨gn, 1, none⟩ (.int .i64 0)).setCell ⟨gn, 2, none⟩ (.int .i64 0)).setCell ⟨gn, 3, none⟩ (.slice none 0 0)).setCell ⟨gn, 4, none⟩ (.string ⟨#[]⟩)) := ⟨_, rfl⟩
 rw [← hW] at QH ⊢
 clear hW
 go_upto_region 3 with (go_at_call 33; (with_reducible refine (dioramaref04_Get.calls k _ a0 v _ er _ A1.out).mono ?_); rintro e w16 ⟨v230, rfl, ho0, hb⟩; have QG := Lib.hid (QH.out.below hb); clear QH hb A1)
 obtain ⟨⟨z0, z1, z2, z3, z4⟩, q0, q1, q2, q3, q4⟩ := C61.cells QG.out.zr
 obtain ⟨⟨x0, x1, x2, x3, x4⟩, y0, y1, y2, y3, y4⟩ := C61.cells QG.out.zn
 obtain ⟨ad, c5, rfl, hc5, p0, p1, p2, p3⟩ := two_cells ho0
 have HP3 := Lib.hid p3
 go_upto_region 10 with fail
 clear z0 z1 z2 z3 z4 q0 q1 q2 q3 q4 x0 x1 x2 x3 x4 y0 y1 y2 y3 y4 p0 p1 p2 p3 ho0 e1 e2 e4 e5 e6
 have HE : Hid ((s0.f1.size : Int) = 9 ∧ ∀ h : 8 < s0.f1.size, ((s0.f1[8]'h).toNat : Int) = way) := Lib.hid ⟨e7, e8⟩
 go_cut [9] (fun v9 wc => ∃ g9, v9 = .pointer (some ⟨g9, 0, none⟩) ∧ Hid (Q1 w wc gr gn g9 (.int .u32 sum) (.int .i64 len) (.int .i64 way) (.slice none 0 0) (.string ⟨#[]⟩)) ∧ Hid (wc.cell? ⟨ad.block, ad.off + 3, none⟩ = some (.string s1.f1)))
 case first =>
  refine begu 12 (fun _ => True) trivial (fun hHeld => ?_)
  have QD : Hid (Q0 w w16.drew gr gn) := Lib.hid (QG.out.drewN 1)
  have HPD : Hid (w16.drew.cell? ⟨ad.block, ad.off + 3, none⟩ = some (.string s1.f1)) := Lib.hid HP3.out
  clear QG HP3
  generalize w16.drew = W1 at QD HPD hHeld ⊢
  refine tku 0 rfl ?_ (.inl ⟨by rfl, ?_⟩) ?_
  rotate_left 1
  ·intro w hSw
   (try obtain ⟨s0, s1⟩ := hSw)
   go_simp
   (try with_reducible rfl)
  (try simp only [Act.put, zq1, zq2, zq3, zq4, zq5, zq6])
  refine tku 1 rfl ?_ (.inl ⟨by rfl, ?_⟩) ?_
  rotate_left 1
  ·intro w hSw
   (try obtain ⟨s0, s1⟩ := hSw)
   go_simp
   (try with_reducible rfl)
  (try simp only [Act.put, zq1, zq2, zq3, zq4, zq5, zq6])
  refine tku 4 rfl ?_ (.inl ⟨by rfl, ?_⟩) ?_
  rotate_left 1
  ·intro w hSw
   (try obtain ⟨s0, s1⟩ := hSw)
   go_simp
   (try with_reducible rfl)
  (try simp only [Act.put, zq1, zq2, zq3, zq4, zq5, zq6])
  refine tku 5 rfl ?_ (.inl ⟨by rfl, ?_⟩) ?_
  rotate_left 1
  ·intro w hSw
   (try obtain ⟨s0, s1⟩ := hSw)
   go_simp
   (try with_reducible rfl)
  (try simp only [Act.put, zq1, zq2, zq3, zq4, zq5, zq6])
  refine tku 7 rfl ?_ (.inl ⟨by rfl, ?_⟩) ?_
  rotate_left 1
  ·intro w hSw
   (try obtain ⟨s0, s1⟩ := hSw)
   go_simp
   (try with_reducible rfl)
  (try simp only [Act.put, zq1, zq2, zq3, zq4, zq5, zq6])
  refine tku 8 rfl ?_ (.inl ⟨by rfl, ?_⟩) ?_
  rotate_left 1
  ·intro w hSw
   (try obtain ⟨s0, s1⟩ := hSw)
   go_simp
   (try with_reducible rfl)
  (try simp only [Act.put, zq1, zq2, zq3, zq4, zq5, zq6])
  refine tku 9 rfl ?_ (.inl ⟨by rfl, ?_⟩) ?_
  rotate_left 1
  ·intro w hSw
   (try obtain ⟨s0, s1⟩ := hSw)
   go_simp
   (try with_reducible rfl)
  (try simp only [Act.put, zq1, zq2, zq3, zq4, zq5, zq6])
  refine rdu2 2 11 rfl rfl (fun K hK => ?_) (fun K hK => ?_)
  ·go_simp
   go_at_call 66
   refine (dioramaref24_number.calls _ _ _ A2.out).mono ?_
   rintro e w20 ⟨rfl, ⟨n_1, hd_⟩⟩
   have QD1 : Hid (Q0 w w20 gr gn) := Lib.hid (by rw [hd_]; exact QD.out.drewN _)
   have HPD1 : Hid (w20.cell? ⟨ad.block, ad.off + 3, none⟩ = some (.string s1.f1)) := Lib.hid (by rw [hd_]; exact HPD.out)
   clear hd_
   refine hK.out _ _ (fun _ => trivial) (fun _ => ?_)
   clear hK K
   (try simp only [Act.put, zq1, zq2, zq3, zq4, zq5, zq6])
   clear QD HPD
   refine tku 3 rfl ?_ (.inl ⟨by rfl, ?_⟩) ?_
   rotate_left 1
   ·intro w hSw
    (try obtain ⟨s0, s1⟩ := hSw)
    go_simp
    (try with_reducible rfl)
   (try simp only [Act.put, zq1, zq2, zq3, zq4, zq5, zq6])
   have HAD : Hid (ad.block < w20.heap.size) := Lib.hid (by have h_ := World.block_lt_of_cell? _ _ HPD1.out; exact h_)
   refine rdu2 6 11 rfl rfl (fun K hK => ?_) (fun K hK => ?_)
   ·go_simp
    go_at_call 66
    refine (dioramaref24_number.calls _ _ _ A3.out).mono ?_
    rintro e w21 ⟨rfl, ⟨n_2, hd_⟩⟩
    have QD2 : Hid (Q0 w w21 gr gn) := Lib.hid (by rw [hd_]; exact QD1.out.drewN _)
    have HPD2 : Hid (w21.cell? ⟨ad.block, ad.off + 3, none⟩ = some (.string s1.f1)) := Lib.hid (by rw [hd_]; exact HPD1.out)
    clear hd_
    refine hK.out _ _ (fun _ => trivial) (fun _ => ?_)
    clear hK K
    (try simp only [Act.put, zq1, zq2, zq3, zq4, zq5, zq6])
    clear QD1 HPD1 HAD
    refine tku 10 rfl ?_ (.inl ⟨by rfl, ?_⟩) ?_
    rotate_left 1
    ·intro w hSw
     (try obtain ⟨s0, s1⟩ := hSw)
     go_simp
     (try with_reducible rfl)
    (try simp only [Act.put, zq1, zq2, zq3, zq4, zq5, zq6])
    have HAD : Hid (ad.block < w21.heap.size) := Lib.hid (by have h_ := World.block_lt_of_cell? _ _ HPD2.out; exact h_)
    refine rdu 11 rfl (fun K hK => ?_)
    go_simp
    refine hK.out _ _ (fun _ => trivial) (fun _ => ?_)
    clear hK K
    (try simp only [Act.put, zq1, zq2, zq3, zq4, zq5, zq6])
    have ZA : Hid (Z61 (w21.alloc (.cells #[.int .u32 0, .int .i64 0, .int .i64 0, .slice none 0 0, .string ⟨#[]⟩] 61 (0, 0))) w21.heap.size) := Lib.hid (heap_alloc_new w21 _)
    have HA : Hid (Below w21.heap.size w21 (w21.alloc (.cells #[.int .u32 0, .int .i64 0, .int .i64 0, .slice none 0 0, .string ⟨#[]⟩] 61 (0, 0)))) := Lib.hid (below_alloc (Below.refl _ _) _)
    have HPA : Hid ((w21.alloc (.cells #[.int .u32 0, .int .i64 0, .int .i64 0, .slice none 0 0, .string ⟨#[]⟩] 61 (0, 0))).cell? ⟨ad.block, ad.off + 3, none⟩ = some (.string s1.f1)) := Lib.hid (pw_cell_below HA.out HPD2.out)
    generalize w21.alloc (.cells #[.int .u32 0, .int .i64 0, .int .i64 0, .slice none 0 0, .string ⟨#[]⟩] 61 (0, 0)) = w22 at ZA HA HPA ⊢
    obtain ⟨g9, hg9⟩ : ∃ g, g = w21.heap.size := ⟨_, rfl⟩
    rw [← hg9] at ZA ⊢
    have H9 : Hid (w21.heap.size ≤ g9) := Lib.hid (by rw [hg9]; exact Nat.le_refl _)
    clear hg9
    have QB := QD2
    clear QD2 HPD2
    obtain ⟨⟨x0, x1, x2, x3, x4⟩, y0, y1, y2, y3, y4⟩ := C61.cells ZA.out
    have QE := Lib.hid (Q1.start (.int .u32 sum) (.int .i64 len) (.int .i64 way) (.slice none 0 0) (.string ⟨#[]⟩) QB.out HA.out ZA.out H9.out)
    have hna : ad.block ≠ g9 := Nat.ne_of_lt (Nat.lt_of_lt_of_le HAD.out H9.out)
    have HPE : Hid ((((((w22.setCell ⟨g9, 0, none⟩ (.int .u32 sum)).setCell ⟨g9, 1, none⟩ (.int .i64 len)).setCell ⟨g9, 2, none⟩ (.int .i64 way)).setCell ⟨g9, 3, none⟩ (.slice none 0 0)).setCell ⟨g9, 4, none⟩ (.string ⟨#[]⟩)).cell? ⟨ad.block, ad.off + 3, none⟩ = some (.string s1.f1)) := Lib.hid (cellfar _ _ (cellfar _ _ (cellfar _ _ (cellfar _ _ (cellfar _ _ HPA.out hna) hna) hna) hna) hna)
    clear hna QB HA ZA H9 HPA
    refine rdu 12 rfl (fun K hK => ?_)
    go_simp
    refine hK.out _ _ (fun h => absurd rfl h) (fun _ => ?_)
    clear hK K
    (try simp only [Act.put, zq1, zq2, zq3, zq4, zq5, zq6])
    refine endu ?_ rfl _
    go_wp2_with fail
    go_meet
    case rel => exact ⟨g9, rfl, QE, HPE⟩
   ·go_simp
    refine hK.out _ _ (fun _ => trivial) (fun _ => ?_)
    clear hK K
    (try simp only [Act.put, zq1, zq2, zq3, zq4, zq5, zq6])
    have ZA : Hid (Z61 (w20.alloc (.cells #[.int .u32 0, .int .i64 0, .int .i64 0, .slice none 0 0, .string ⟨#[]⟩] 61 (0, 0))) w20.heap.size) := Lib.hid (heap_alloc_new w20 _)
    have HA : Hid (Below w20.heap.size w20 (w20.alloc (.cells #[.int .u32 0, .int .i64 0, .int .i64 0, .slice none 0 0, .string ⟨#[]⟩] 61 (0, 0)))) := Lib.hid (below_alloc (Below.refl _ _) _)
    have HPA : Hid ((w20.alloc (.cells #[.int .u32 0, .int .i64 0, .int .i64 0, .slice none 0 0, .string ⟨#[]⟩] 61 (0, 0))).cell? ⟨ad.block, ad.off + 3, none⟩ = some (.string s1.f1)) := Lib.hid (pw_cell_below HA.out HPD1.out)
    generalize w20.alloc (.cells #[.int .u32 0, .int .i64 0, .int .i64 0, .slice none 0 0, .string ⟨#[]⟩] 61 (0, 0)) = w22 at ZA HA HPA ⊢
    obtain ⟨g9, hg9⟩ : ∃ g, g = w20.heap.size := ⟨_, rfl⟩
    rw [← hg9] at ZA ⊢
    have H9 : Hid (w20.heap.size ≤ g9) := Lib.hid (by rw [hg9]; exact Nat.le_refl _)
    clear hg9
    have QB := QD1
    clear QD1 HPD1
    refine rdu 6 rfl (fun K hK => ?_)
    go_simp
    go_at_call 66
    refine (dioramaref24_number.calls _ _ _ A3.out).mono ?_
    rintro e w23 ⟨rfl, ⟨n_, hd_⟩⟩
    have ZA2 : Hid (Z61 w23 g9) := Lib.hid (by rw [hd_]; exact ZA.out)
    have HA2 : Hid (Below w20.heap.size w20 w23) := Lib.hid (by rw [hd_]; exact pw_below_drewN HA.out n_)
    have HPA2 : Hid (w23.cell? ⟨ad.block, ad.off + 3, none⟩ = some (.string s1.f1)) := Lib.hid (by rw [hd_]; exact HPA.out)
    clear hd_ ZA HA HPA
    have ZA := ZA2
    have HA := HA2
    have HPA := HPA2
    clear ZA2 HA2 HPA2
    refine hK.out _ _ (fun _ => trivial) (fun _ => ?_)
    clear hK K
    (try simp only [Act.put, zq1, zq2, zq3, zq4, zq5, zq6])
    refine tku 10 rfl ?_ (.inl ⟨by rfl, ?_⟩) ?_
    rotate_left 1
    ·intro w hSw
     (try obtain ⟨s0, s1⟩ := hSw)
     go_simp
     (try with_reducible rfl)
    (try simp only [Act.put, zq1, zq2, zq3, zq4, zq5, zq6])
    obtain ⟨⟨x0, x1, x2, x3, x4⟩, y0, y1, y2, y3, y4⟩ := C61.cells ZA.out
    have QE := Lib.hid (Q1.start (.int .u32 sum) (.int .i64 len) (.int .i64 way) (.slice none 0 0) (.string ⟨#[]⟩) QB.out HA.out ZA.out H9.out)
    have hna : ad.block ≠ g9 := Nat.ne_of_lt (Nat.lt_of_lt_of_le HAD.out H9.out)
    have HPE : Hid ((((((w23.setCell ⟨g9, 0, none⟩ (.int .u32 sum)).setCell ⟨g9, 1, none⟩ (.int .i64 len)).setCell ⟨g9, 2, none⟩ (.int .i64 way)).setCell ⟨g9, 3, none⟩ (.slice none 0 0)).setCell ⟨g9, 4, none⟩ (.string ⟨#[]⟩)).cell? ⟨ad.block, ad.off + 3, none⟩ = some (.string s1.f1)) := Lib.hid (cellfar _ _ (cellfar _ _ (cellfar _ _ (cellfar _ _ (cellfar _ _ HPA.out hna) hna) hna) hna) hna)
    clear hna QB HA ZA H9 HPA
    refine rdu 12 rfl (fun K hK => ?_)
    go_simp
    refine hK.out _ _ (fun h => absurd rfl h) (fun _ => ?_)
    clear hK K
    (try simp only [Act.put, zq1, zq2, zq3, zq4, zq5, zq6])
    refine endu ?_ rfl _
    go_wp2_with fail
    go_meet
    case rel => exact ⟨g9, rfl, QE, HPE⟩
  ·have HAD : Hid (ad.block < W1.heap.size) := Lib.hid (by have h_ := World.block_lt_of_cell? _ _ HPD.out; exact h_)
   go_simp
   refine hK.out _ _ (fun _ => trivial) (fun _ => ?_)
   clear hK K
   (try simp only [Act.put, zq1, zq2, zq3, zq4, zq5, zq6])
   have ZA : Hid (Z61 (W1.alloc (.cells #[.int .u32 0, .int .i64 0, .int .i64 0, .slice none 0 0, .string ⟨#[]⟩] 61 (0, 0))) W1.heap.size) := Lib.hid (heap_alloc_new W1 _)
   have HA : Hid (Below W1.heap.size W1 (W1.alloc (.cells #[.int .u32 0, .int .i64 0, .int .i64 0, .slice none 0 0, .string ⟨#[]⟩] 61 (0, 0)))) := Lib.hid (below_alloc (Below.refl _ _) _)
   have HPA : Hid ((W1.alloc (.cells #[.int .u32 0, .int .i64 0, .int .i64 0, .slice none 0 0, .string ⟨#[]⟩] 61 (0, 0))).cell? ⟨ad.block, ad.off + 3, none⟩ = some (.string s1.f1)) := Lib.hid (pw_cell_below HA.out HPD.out)
   generalize W1.alloc (.cells #[.int .u32 0, .int .i64 0, .int .i64 0, .slice none 0 0, .string ⟨#[]⟩] 61 (0, 0)) = w22 at ZA HA HPA ⊢
   obtain ⟨g9, hg9⟩ : ∃ g, g = W1.heap.size := ⟨_, rfl⟩
   rw [← hg9] at ZA ⊢
   have H9 : Hid (W1.heap.size ≤ g9) := Lib.hid (by rw [hg9]; exact Nat.le_refl _)
   clear hg9
   have QB := QD
   clear QD HPD
   refine rdu 2 rfl (fun K hK => ?_)
   go_simp
   go_at_call 66
   refine (dioramaref24_number.calls _ _ _ A2.out).mono ?_
   rintro e w23 ⟨rfl, ⟨n_, hd_⟩⟩
   have ZA2 : Hid (Z61 w23 g9) := Lib.hid (by rw [hd_]; exact ZA.out)
   have HA2 : Hid (Below W1.heap.size W1 w23) := Lib.hid (by rw [hd_]; exact pw_below_drewN HA.out n_)
   have HPA2 : Hid (w23.cell? ⟨ad.block, ad.off + 3, none⟩ = some (.string s1.f1)) := Lib.hid (by rw [hd_]; exact HPA.out)
   clear hd_ ZA HA HPA
   have ZA := ZA2
   have HA := HA2
   have HPA := HPA2
   clear ZA2 HA2 HPA2
   refine hK.out _ _ (fun _ => trivial) (fun _ => ?_)
   clear hK K
   (try simp only [Act.put, zq1, zq2, zq3, zq4, zq5, zq6])
   refine tku 3 rfl ?_ (.inl ⟨by rfl, ?_⟩) ?_
   rotate_left 1
   ·intro w hSw
    (try obtain ⟨s0, s1⟩ := hSw)
    go_simp
    (try with_reducible rfl)
   (try simp only [Act.put, zq1, zq2, zq3, zq4, zq5, zq6])
   refine rdu 6 rfl (fun K hK => ?_)
   go_simp
   go_at_call 66
   refine (dioramaref24_number.calls _ _ _ A3.out).mono ?_
   rintro e w24 ⟨rfl, ⟨n_, hd_⟩⟩
   have ZA2 : Hid (Z61 w24 g9) := Lib.hid (by rw [hd_]; exact ZA.out)
   have HA2 : Hid (Below W1.heap.size W1 w24) := Lib.hid (by rw [hd_]; exact pw_below_drewN HA.out n_)
   have HPA2 : Hid (w24.cell? ⟨ad.block, ad.off + 3, none⟩ = some (.string s1.f1)) := Lib.hid (by rw [hd_]; exact HPA.out)
   clear hd_ ZA HA HPA
   have ZA := ZA2
   have HA := HA2
   have HPA := HPA2
   clear ZA2 HA2 HPA2
   refine hK.out _ _ (fun _ => trivial) (fun _ => ?_)
   clear hK K
   (try simp only [Act.put, zq1, zq2, zq3, zq4, zq5, zq6])
   refine tku 10 rfl ?_ (.inl ⟨by rfl, ?_⟩) ?_
   rotate_left 1
   ·intro w hSw
    (try obtain ⟨s0, s1⟩ := hSw)
    go_simp
    (try with_reducible rfl)
   (try simp only [Act.put, zq1, zq2, zq3, zq4, zq5, zq6])
   obtain ⟨⟨x0, x1, x2, x3, x4⟩, y0, y1, y2, y3, y4⟩ := C61.cells ZA.out
   have QE := Lib.hid (Q1.start (.int .u32 sum) (.int .i64 len) (.int .i64 way) (.slice none 0 0) (.string ⟨#[]⟩) QB.out HA.out ZA.out H9.out)
   have hna : ad.block ≠ g9 := Nat.ne_of_lt (Nat.lt_of_lt_of_le HAD.out H9.out)
   have HPE : Hid ((((((w24.setCell ⟨g9, 0, none⟩ (.int .u32 sum)).setCell ⟨g9, 1, none⟩ (.int .i64 len)).setCell ⟨g9, 2, none⟩ (.int .i64 way)).setCell ⟨g9, 3, none⟩ (.slice none 0 0)).setCell ⟨g9, 4, none⟩ (.string ⟨#[]⟩)).cell? ⟨ad.block, ad.off + 3, none⟩ = some (.string s1.f1)) := Lib.hid (cellfar _ _ (cellfar _ _ (cellfar _ _ (cellfar _ _ (cellfar _ _ HPA.out hna) hna) hna) hna) hna)
   clear hna QB HA ZA H9 HPA
   refine rdu 12 rfl (fun K hK => ?_)
   go_simp
   refine hK.out _ _ (fun h => absurd rfl h) (fun _ => ?_)
   clear hK K
   (try simp only [Act.put, zq1, zq2, zq3, zq4, zq5, zq6])
   refine endu ?_ rfl _
   go_wp2_with fail
   go_meet
   case rel => exact ⟨g9, rfl, QE, HPE⟩
 case rest =>
  clear QG HP3 HE e7 e8 hw0 hu0 hu1 A2 A3 h9
  obtain ⟨g9, rfl, QA, HPP⟩ := hcut
  have hp3 := HPP.out
  obtain ⟨⟨z0, z1, z2, z3, z4⟩, q0, q1, q2, q3, q4⟩ := C61.cells QA.out.zr
  obtain ⟨⟨j0, j1, j2, j3, j4⟩, m0, m1, m2, m3, m4⟩ := C61.cells QA.out.zn
  obtain ⟨⟨x0, x1, x2, x3, x4⟩, y0, y1, y2, y3, y4⟩ := C61.cells QA.out.box
  by_cases hw2 : 2 < way
  ·have t1 : decide (2 < way) = true := decide_eq_true hw2
   have HR2 : Hid (zeroR 1 = r) := Lib.hid (by rw [← HR.out]; simp only [rBody, if_pos hw2])
   clear hw2 HR
   go_wp2_with fail
   refine bodyPost_ret (results_ct rfl _ _ gr 61 #[.int .u32 0, .int .i64 0, .int .i64 0, .slice none 0 0, .string ⟨#[]⟩] (0, 0) _ rfl (C61.set _ _ _ _ _ QA.out.zr) Try.underlying61 rfl (by kernel_rfl)) rfl ?_
   rw [← HR2.out]
   exact ⟨_, rfl, Kd.S_nil _ _ _ _ _, below57 _ _ _ _ _ QA.out.bel QA.out.le⟩
  have t1 : decide (2 < way) = false := decide_eq_false hw2
  by_cases hw3 : way = 2
  ·have t2 : (way == 2) = true := beq_iff_eq.mpr hw3
   have HR2 : Hid ((sum, len, way, ([] : List S107), s1.f1, (0 : Int)) = r) := Lib.hid (by rw [← HR.out]; simp only [rBody, if_neg hw2, if_pos hw3])
   clear hw2 hw3 HR
   go_upto_region 15 with fail
   have QB : Hid (Q1 w (wc.setCell ⟨g9, 4, none⟩ (.string s1.f1)) gr gn g9 (.int .u32 sum) (.int .i64 len) (.int .i64 way) (.slice none 0 0) (.string s1.f1)) := Lib.hid ⟨⟨blk_far QA.out.zr QA.out.n9 _, blk_far QA.out.zn QA.out.n8 _, QA.out.ne, QA.out.le, QA.out.ln, below_set QA.out.bel QA.out.l9⟩, blk_put QA.out.box 4 _ rfl, QA.out.n9, QA.out.n8, QA.out.l9⟩
   clear z0 z1 z2 z3 z4 q0 q1 q2 q3 q4
   clear j0 j1 j2 j3 j4 m0 m1 m2 m3 m4
   clear x0 x1 x2 x3 x4 y0 y1 y2 y3 y4
   clear hp3 HPP QA
   generalize wc.setCell ⟨g9, 4, none⟩ (.string s1.f1) = w30 at QB ⊢
   obtain ⟨⟨z0, z1, z2, z3, z4⟩, q0, q1, q2, q3, q4⟩ := C61.cells QB.out.zr
   obtain ⟨⟨x0, x1, x2, x3, x4⟩, y0, y1, y2, y3, y4⟩ := C61.cells QB.out.box
   go_wp2_with fail
   refine bodyPost_ret (results_ct rfl _ _ gr 61 #[.int .u32 sum, .int .i64 len, .int .i64 way, .slice none 0 0, .string s1.f1] (0, 0) _ rfl (C61.set _ _ _ _ _ QB.out.zr) Try.underlying61 rfl (by kernel_rfl)) rfl ?_
   rw [← HR2.out]
   exact ⟨_, rfl, Kd.S_nil _ _ _ _ _, below57 _ _ _ _ _ QB.out.bel QB.out.le⟩
  have t2 : (way == 2) = false := beq_eq_false_iff_ne.mpr hw3
  have HR2 : Hid (rTell sum len way (rList way s1.f1) = r) := Lib.hid (by rw [← HR.out]; simp only [rBody, if_neg hw2, if_neg hw3])
  clear hw2 hw3 HR
  go_upto_if 89 with ((with_reducible refine gate_dst (N := 86) rfl ?_); refine box_event ?hg (N := 86) ?hd (cs := #[.string s1.f1, .int .i64 0, .int .i64 0]) (t := 116) ?hr ?_; (case hd => rfl); (case hg => rfl); (case hr => first | (go_simp; done) | (go_simp; rfl)); intro gc hgc w30 hc hb_; have P : Hid (QI w gr gn g9 gc sum len way s1.f1 w30 (bs s1.f1, none) [] (.slice none 0 0)) := Lib.hid (QI.start QA.out hb_ hc (by rw [hgc]; exact Nat.le_refl _)); clear hgc hc hb_ QA z0 z1 z2 z3 z4 q0 q1 q2 q3 q4 j0 j1 j2 j3 j4 m0 m1 m2 m3 m4 x0 x1 x2 x3 x4 y0 y1 y2 y3 y4; obtain ⟨⟨x0, x1, x2, x3, x4⟩, y0, y1, y2, y3, y4⟩ := C61.cells P.out.box)
  clear hp3 HPP t1 t2
  (try simp only [Act.put, zq1, zq2, zq3, zq4, zq5, zq6])
  have HLR : Hid (∃ rl, rl = rList way s1.f1) := Lib.hid ⟨_, rfl⟩
  obtain ⟨R, hR⟩ := HLR.out
  clear HLR
  rw [← hR] at HR2
  have HR3 := Lib.hid hR
  clear hR
  go_cut [] (fun wc => ∃ s ops v, Hid (QI w gr gn g9 gc sum len way s1.f1 wc s ops v) ∧ Hid ((ops, s) = R))
  case first =>
   by_cases hw1 : way = 1
   ·have t3 : (way == 1) = true := beq_iff_eq.mpr hw1
    have HR4 : Hid (countP opP (bs s1.f1, none) = R) := Lib.hid (by rw [HR3.out, rList, if_pos hw1])
    clear hw1 HR3
    obtain ⟨n0, hn0⟩ : ∃ n0 : Nat, (uintP (bs s1.f1, none)).1 = (n0 : Int) := ⟨(uintP (bs s1.f1, none)).1.toNat, by have := uintP_range (bs s1.f1, none); omega⟩
    have HN : Hid (n0 ≤ 16777216) := Lib.hid (by have := uintP_range (bs s1.f1, none); omega)
    have HU : Hid (dioramaref02_Cursor_Uint.f k s1.f1 (atOf s1.f1 (bs s1.f1, none)) (erOf (bs s1.f1, none)) 16777216 = some ((n0 : Int), s1.f1, atOf s1.f1 (uintP (bs s1.f1, none)).2, erOf (uintP (bs s1.f1, none)).2)) := Lib.hid (by rw [← hn0]; exact ruint_cur HSZ.out k (by have := HKK.out; unfold roundsOf at this; omega) _ P.out.good)
    have HIT : Hid (iterP opP n0 (uintP (bs s1.f1, none)).2 = R) := Lib.hid (by rw [← HR4.out]; unfold countP; rw [hn0]; rfl)
    clear hn0 HR4
    go_wp2_with (go_at_call 67; refine (dioramaref02_Cursor_Uint.calls k gc s1.f1 (atOf s1.f1 (bs s1.f1, none)) (erOf (bs s1.f1, none)) 16777216 _ _ _ _ w _ P.out.cur P.out.bel HU.out).mono ?_; rintro e w31 ⟨rfl, i_, b_, k_⟩; have N_ := Lib.hid (P.out.call P.out.good.uint i_ b_ k_); clear i_ b_ k_ P HU)
    clear x0 x1 x2 x3 x4 y0 y1 y2 y3 y4
    go_loopw [12] (fun i wr => ∃ m : Nat, i = .int .i64 m ∧ ∃ xs st v, Hid (m ≤ n0) ∧ Hid (QI w gr gn g9 gc sum len way s1.f1 wr st xs v) ∧ Hid (xs.length ≤ m) ∧ Hid ((xs ++ (iterP opP (n0 - m) st).1, (iterP opP (n0 - m) st).2) = R)) (fun i _ => n0 - (intOf i).toNat)
    case atStart => exact ⟨0, rfl, [], _, _, Lib.hid (Nat.zero_le _), N_, Lib.hid (by simp), Lib.hid (by rw [Nat.sub_zero, HIT.out]; rfl)⟩
    case round =>
     clear N_ HIT
     obtain ⟨m, rfl, xs, ⟨L, er1⟩, v, HM, P, HLN, HI⟩ := hrel
     have hc0 := (blk_cell P.out.cur.1 0).trans rfl
     have hc1 := (blk_cell P.out.cur.1 1).trans rfl
     have hc2 := (blk_cell P.out.cur.1 2).trans rfl
     by_cases hm : m < n0
     ·have t4 : decide ((m : Int) < (n0 : Int)) = true := decide_eq_true (by omega)
      have t4b : (m < n0) = True := eq_true hm
      cases er1 with
      | none =>
       obtain ⟨s, hs⟩ : ∃ s : PS, s = (L, none) := ⟨_, rfl⟩
       have t5 : erOf (L, none) = 0 := rfl
       rw [t5] at hc2
       have HI2 : Hid (((xs ++ [(opP s).1]) ++ (iterP opP (n0 - (m + 1)) (opP s).2).1, (iterP opP (n0 - (m + 1)) (opP s).2).2) = R) := Lib.hid (by rw [← HI.out, hs, show n0 - m = (n0 - (m + 1)) + 1 by omega, List.append_assoc]; rfl)
       have HMN := Lib.hid hm
       have hw : wrap64 ((m : Int) + 1) = ((m + 1 : Nat) : Int) := by have := HN.out; unfold wrap64; omega
       have HW := Lib.hid hw
       clear hw hm HI HM t5
       go_upto_region 22 with fail
       rw [← hs] at P
       clear hs hc0 hc1 hc2 t4 t4b
       have hx : wr.cell? ⟨g9, 3, none⟩ = some v := (C61.cells P.out.box).1.2.2.2.1
       refine begu 7 (fun w' => w'.cell? ⟨g9, 3, none⟩ = some v) hx (fun hHeld => ?_)
       have H2 := Lib.hid P.out.drew
       clear P hx
       generalize wr.drew = W1 at H2 hHeld ⊢
       refine tku 0 rfl ?_ (.inl ⟨by rfl, ?_⟩) ?_
       rotate_left 1
       ·intro w hSw
        (try obtain ⟨s0, s1⟩ := hSw)
        go_simp
        (try with_reducible rfl)
       (try simp only [Act.put, zq1, zq2, zq3, zq4, zq5, zq6])
       refine tku 1 rfl ?_ (.inl ⟨by rfl, ?_⟩) ?_
       rotate_left 1
       ·intro w hSw
        (try obtain ⟨s0, s1⟩ := hSw)
        go_simp
        (try with_reducible rfl)
       (try simp only [Act.put, zq1, zq2, zq3, zq4, zq5, zq6])
       refine tku 2 rfl ?_ (.inl ⟨by rfl, ?_⟩) ?_
       rotate_left 1
       ·intro w hSw
        (try obtain ⟨s0, s1⟩ := hSw)
        go_simp
        (try with_reducible rfl)
       (try simp only [Act.put, zq1, zq2, zq3, zq4, zq5, zq6])
       refine rdu 3 rfl (fun K hK => ?_)
       go_simp
       go_at_call 68
       refine (dioramaref24_getOp.calls k gc s1.f1 (atOf s1.f1 s) (erOf s) _ _ _ _ _ _ _ _ _ _ _ w _ H2.out.cur H2.out.bel (rop_cur HSZ.out k s H2.out.good HKK.out)).mono ?_
       rintro e w2 ⟨v2, v3, v5, v6, v7, rfl, o2, o3, o5, o6, o7, i2, b2, k2⟩
       have H3 := Lib.hid (H2.out.call (H2.out.good.op) i2 b2 k2)
       have HS3 : Hid (Kd.S k107 107 w2 w.heap.size (fun k => True ∧ ¬ W1.heap.size ≤ k) v xs) := Lib.hid (Kd.S_mono (Kd.S_keep (Kd.S_types (Kd.S_bound H2.out.row) H2.out.cur.1 (by decide)) k2 (fun _ h => h.2)) (fun k h => ⟨trivial, by have := h.1.2.2.1; omega⟩))
       have HM3 : Hid (k107.M w2 w.heap.size (fun k => W1.heap.size ≤ k) (opP s).1 [.int .i64 (opP s).1.f0, .int .i64 (opP s).1.f1, v2, v3, .int .i64 (opP s).1.f4.f0, v5, v6, v7]) := Lib.hid (k107.M_lower H2.out.bel.size (k107.M_mono (fun k hk => hk.2.1) (k107.M_bound (k107_mkM w2 _ _ (opP s).1 o2 o3 o5 o6 o7))))
       have HV3 : Hid (∀ k, v.ownBlock = some k → k < W1.heap.size) := Lib.hid (Kd.S_lt H2.out.row)
       obtain ⟨A2, n2, c2, rfl⟩ : ∃ A n c, v2 = .slice A n c := by obtain ⟨A, c, e⟩ := Kd.R_slice o2; exact ⟨A, _, c, e⟩
       obtain ⟨A3, n3, c3, rfl⟩ : ∃ A n c, v3 = .slice A n c := by obtain ⟨A, c, e⟩ := Kd.R_slice o3; exact ⟨A, _, c, e⟩
       obtain ⟨A5, n5, c5, rfl⟩ : ∃ A n c, v5 = .slice A n c := by obtain ⟨A, c, e⟩ := Kd.R_slice o5; exact ⟨A, _, c, e⟩
       obtain ⟨A6, n6, c6, rfl⟩ : ∃ A n c, v6 = .slice A n c := by obtain ⟨A, c, e⟩ := Kd.R_slice o6; exact ⟨A, _, c, e⟩
       obtain ⟨A7, n7, c7, rfl⟩ : ∃ A n c, v7 = .slice A n c := by obtain ⟨A, c, e⟩ := Kd.R_slice o7; exact ⟨A, _, c, e⟩
       clear o2 o3 o5 o6 o7 i2 b2 k2 H2 hHeld
       have x0 : w2.cell? ⟨g9, 3, none⟩ = some v := (C61.cells H3.out.box).1.2.2.2.1
       refine hK.out _ _ (fun _ => x0) (fun _ => ?_)
       clear hK K
       (try simp only [Act.put, zq1, zq2, zq3, zq4, zq5, zq6])
       refine rdu 4 rfl (fun K hK => ?_)
       go_simp
       refine hK.out _ _ (fun _ => pw_cell_below (below_alloc (Below.refl _ _) _) x0) (fun _ => ?_)
       clear hK K
       (try simp only [Act.put, zq1, zq2, zq3, zq4, zq5, zq6])
       refine rdu 5 rfl (fun K hK => ?_)
       refine Kd.S_append_step k107 (w0 := w2) w.heap.size (by rfl) (.tmp 105) (.tmp 108) 55 107 (.agg zero8) 144 rfl Try.underlying55 i107 rfl (by decide) (by omega) v xs (opP s).1 _ (fun _ => True) (fun k => W1.heap.size ≤ k) rfl rfl HM3.out (fun k hk => ⟨trivial, fun e => Nat.lt_irrefl _ (Nat.lt_of_lt_of_le (HV3.out k e.symm) hk)⟩) (fun _ _ => trivial) HS3.out (Below.refl _ _) H3.out.bel.size (by have h1 := HLN.out; have h2 := HMN.out; have h3 := HN.out; omega) ?_
       intro v1 w3 hr hb hg hat
       obtain ⟨A1, n1, c1, rfl⟩ : ∃ A n c, v1 = .slice A n c := by obtain ⟨A, c, e⟩ := Kd.S_slice hr; exact ⟨A, _, c, e⟩
       have hbx := blk_grown H3.out.box hg (Kd.S_ne H3.out.row H3.out.box (by decide))
       have H4 := Lib.hid (H3.out.put hr hb hg)
       have x0 : w3.cell? ⟨g9, 3, none⟩ = some v := (blk_cell hbx 3).trans rfl
       have x2 := blk_frozen hbx 3
       clear hr hb hg hat hbx H3 HS3 HM3 HV3
       refine hK.out _ _ (fun _ => x0) (fun hHeld => ?_)
       have hHeld := hHeld (by decide)
       clear hK K
       (try simp only [Act.put, zq1, zq2, zq3, zq4, zq5, zq6])
       refine tku 6 rfl ?_ (.inl ⟨by rfl, ?_⟩) ?_
       rotate_left 1
       ·intro w hSw
        (try obtain ⟨s0, s1⟩ := hSw)
        go_simp
        (try with_reducible rfl)
       (try simp only [Act.put, zq1, zq2, zq3, zq4, zq5, zq6])
       refine rdu 7 rfl (fun K hK => ?_)
       go_simp
       refine hK.out _ _ (fun h => absurd rfl h) (fun _ => ?_)
       clear hK K
       (try simp only [Act.put, zq1, zq2, zq3, zq4, zq5, zq6])
       refine endu ?_ rfl _
       go_wp2_with fail
       go_roundw
       case rel => exact ⟨m + 1, by rw [HW.out], _, _, _, Lib.hid (by have := HMN.out; omega), H4, Lib.hid (by have := HLN.out; simp only [List.length_append, List.length_singleton]; omega), HI2⟩
       case measure => rw [HW.out]; have := HMN.out; simp [intOf]; omega
      | some er1 =>
       have h0 := P.out.good.2 er1 rfl
       have t5 : erOf (L, some er1) = er1 := rfl
       rw [t5] at hc2
       have t6 : (er1 == 0) = false := beq_eq_false_iff_ne.mpr h0
       have HI2 : Hid ((xs, (L, some er1)) = R) := Lib.hid (by rw [← HI.out, iterP_some opP _ (L, some er1) er1 rfl, List.append_nil])
       clear HI HM h0 t5 hm
       go_wp2_with fail
       go_meet
       case rel => exact ⟨_, _, _, P, HI2⟩
     ·have t4 : decide ((m : Int) < (n0 : Int)) = false := decide_eq_false (by omega)
      have t4b : (m < n0) = False := eq_false hm
      have HI2 : Hid ((xs, (L, er1)) = R) := Lib.hid (by rw [← HI.out, show n0 - m = 0 by omega, iterP, List.append_nil])
      clear HI HM hm
      go_wp2_with fail
      go_meet
      case rel => exact ⟨_, _, _, P, HI2⟩
   ·have t3 : (way == 1) = false := beq_eq_false_iff_ne.mpr hw1
    have HR4 : Hid (([], (bs s1.f1, none)) = R) := Lib.hid (by rw [HR3.out, rList, if_neg hw1])
    clear hw1 HR3
    go_wp2_with fail
    go_meet
    case rel => exact ⟨_, _, _, P, HR4⟩
  case rest =>
   clear P HR3 HKK x0 x1 x2 x3 x4 y0 y1 y2 y3 y4
   obtain ⟨⟨L, er1⟩, ops, v, P, HRR⟩ := hcut
   obtain ⟨⟨z0, z1, z2, z3, z4⟩, q0, q1, q2, q3, q4⟩ := C61.cells P.out.zr
   obtain ⟨⟨j0, j1, j2, j3, j4⟩, m0, m1, m2, m3, m4⟩ := C61.cells P.out.zn
   obtain ⟨⟨x0, x1, x2, x3, x4⟩, y0, y1, y2, y3, y4⟩ := C61.cells P.out.box
   have hc0 := (blk_cell P.out.cur.1 0).trans rfl
   have hc1 := (blk_cell P.out.cur.1 1).trans rfl
   have hc2 := (blk_cell P.out.cur.1 2).trans rfl
   obtain ⟨A3, n3, c3, rfl⟩ : ∃ A n c, v = .slice A n c := by obtain ⟨A, c, e⟩ := Kd.S_slice P.out.row; exact ⟨A, _, c, e⟩
   cases er1 with
   | some er1 =>
    have h0 := P.out.good.2 er1 rfl
    have t5 : erOf (L, some er1) = er1 := rfl
    rw [t5] at hc2
    have t6 : (er1 != 0) = true := bne_iff_ne.mpr h0
    have HR4 : Hid (zeroR er1 = r) := Lib.hid (by rw [← HR2.out, ← HRR.out]; rfl)
    clear HR2 HRR h0 t5
    go_upto_region 24 with fail
    refine begu 6 (fun w' => w'.cell? ⟨gn, 0, none⟩ = some (.int .u32 0) ∧ w'.cell? ⟨gn, 1, none⟩ = some (.int .i64 0) ∧ w'.cell? ⟨gn, 2, none⟩ = some (.int .i64 0) ∧ w'.cell? ⟨gn, 3, none⟩ = some (.slice none 0 0) ∧ w'.cell? ⟨gn, 4, none⟩ = some (.string ⟨#[]⟩) ∧ w'.cell? ⟨gc, 2, none⟩ = some (.int .i64 er1)) ⟨j0, j1, j2, j3, j4, hc2⟩ (fun hHeld => ?_)
    have P1 := Lib.hid P.out.drew
    clear z0 z1 z2 z3 z4 q0 q1 q2 q3 q4
    clear j0 j1 j2 j3 j4 m0 m1 m2 m3 m4
    clear x0 x1 x2 x3 x4 y0 y1 y2 y3 y4
    clear P hc0 hc1 hc2
    generalize wc.drew = W1 at P1 hHeld ⊢
    obtain ⟨⟨z0, z1, z2, z3, z4⟩, q0, q1, q2, q3, q4⟩ := C61.cells P1.out.zr
    refine tku 0 rfl ?_ (.inl ⟨by rfl, ?_⟩) ?_
    rotate_left 1
    ·intro w hSw
     obtain ⟨s0, s1, s2, s3, s4, s5⟩ := hSw
     go_simp
     (try with_reducible rfl)
    (try simp only [Act.put, zq1, zq2, zq3, zq4, zq5, zq6])
    refine tku 1 rfl ?_ (.inl ⟨by rfl, ?_⟩) ?_
    rotate_left 1
    ·intro w hSw
     obtain ⟨s0, s1, s2, s3, s4, s5⟩ := hSw
     go_simp
     (try with_reducible rfl)
    (try simp only [Act.put, zq1, zq2, zq3, zq4, zq5, zq6])
    refine tku 2 rfl ?_ (.inl ⟨by rfl, ?_⟩) ?_
    rotate_left 1
    ·intro w hSw
     obtain ⟨s0, s1, s2, s3, s4, s5⟩ := hSw
     go_simp
     (try with_reducible rfl)
    (try simp only [Act.put, zq1, zq2, zq3, zq4, zq5, zq6])
    refine tku 3 rfl ?_ (.inl ⟨by rfl, ?_⟩) ?_
    rotate_left 1
    ·intro w hSw
     obtain ⟨s0, s1, s2, s3, s4, s5⟩ := hSw
     go_simp
     (try with_reducible rfl)
    (try simp only [Act.put, zq1, zq2, zq3, zq4, zq5, zq6])
    refine tku 4 rfl ?_ (.inl ⟨by rfl, ?_⟩) ?_
    rotate_left 1
    ·intro w hSw
     obtain ⟨s0, s1, s2, s3, s4, s5⟩ := hSw
     go_simp
     (try with_reducible rfl)
    (try simp only [Act.put, zq1, zq2, zq3, zq4, zq5, zq6])
    have hc2 : W1.cell? ⟨gc, 2, none⟩ = some (.int .i64 er1) := (blk_cell P1.out.cur.1 2).trans rfl
    obtain ⟨⟨j0, j1, j2, j3, j4⟩, m0, m1, m2, m3, m4⟩ := C61.cells P1.out.zn
    have hng : gn ≠ gr := P1.out.ne.symm
    have hngc : gc ≠ gr := IsS116.ne_blk P1.out.cur P1.out.zr (by decide)
    have jj0 := (cellfar 4 (.string ⟨#[]⟩) (cellfar 3 (.slice none 0 0) (cellfar 2 (.int .i64 0) (cellfar 1 (.int .i64 0) (cellfar 0 (.int .u32 0) j0 hng) hng) hng) hng) hng)
    have jj1 := (cellfar 4 (.string ⟨#[]⟩) (cellfar 3 (.slice none 0 0) (cellfar 2 (.int .i64 0) (cellfar 1 (.int .i64 0) (cellfar 0 (.int .u32 0) j1 hng) hng) hng) hng) hng)
    have jj2 := (cellfar 4 (.string ⟨#[]⟩) (cellfar 3 (.slice none 0 0) (cellfar 2 (.int .i64 0) (cellfar 1 (.int .i64 0) (cellfar 0 (.int .u32 0) j2 hng) hng) hng) hng) hng)
    have jj3 := (cellfar 4 (.string ⟨#[]⟩) (cellfar 3 (.slice none 0 0) (cellfar 2 (.int .i64 0) (cellfar 1 (.int .i64 0) (cellfar 0 (.int .u32 0) j3 hng) hng) hng) hng) hng)
    have jj4 := (cellfar 4 (.string ⟨#[]⟩) (cellfar 3 (.slice none 0 0) (cellfar 2 (.int .i64 0) (cellfar 1 (.int .i64 0) (cellfar 0 (.int .u32 0) j4 hng) hng) hng) hng) hng)
    have jjc := (cellfar 4 (.string ⟨#[]⟩) (cellfar 3 (.slice none 0 0) (cellfar 2 (.int .i64 0) (cellfar 1 (.int .i64 0) (cellfar 0 (.int .u32 0) hc2 hngc) hngc) hngc) hngc) hngc)
    have HNN := Lib.hid (And.intro jj0 (And.intro jj1 (And.intro jj2 (And.intro jj3 (And.intro jj4 jjc)))))
    clear jj0 jj1 jj2 jj3 jj4 jjc hng hngc
    refine rdu 5 rfl (fun K hK => ?_)
    go_simp
    refine hK.out _ _ (fun _ => HNN.out) (fun _ => ?_)
    clear hK K HNN
    (try simp only [Act.put, zq1, zq2, zq3, zq4, zq5, zq6])
    refine rdu 6 rfl (fun K hK => ?_)
    go_simp
    refine hK.out _ _ (fun h => absurd rfl h) (fun _ => ?_)
    clear hK K
    (try simp only [Act.put, zq1, zq2, zq3, zq4, zq5, zq6])
    refine endu ?_ rfl _
    go_wp2_with fail
    refine bodyPost_ret (results_ct rfl _ _ gr 61 #[.int .u32 0, .int .i64 0, .int .i64 0, .slice none 0 0, .string ⟨#[]⟩] (0, 0) _ rfl (C61.set _ _ _ _ _ P1.out.zr) Try.underlying61 rfl (by kernel_rfl)) rfl ?_
    rw [← HR4.out]
    exact ⟨_, rfl, Kd.S_nil _ _ _ _ _, below57 _ _ _ _ _ P1.out.bel P1.out.le⟩
   | none =>
    have t5 : erOf (L, none) = 0 := rfl
    rw [t5] at hc2
    clear t5
    obtain ⟨hsl, _⟩ := suf_drop P.out.good.1
    have hsl : L.length ≤ s1.f1.size := hsl
    have hat : atOf s1.f1 (L, none) = (s1.f1.size : Int) - (L.length : Int) := by show (((s1.f1.size - L.length : Nat)) : Int) = _; omega
    by_cases hL : 0 < L.length
    ·have t7 : decide (atOf s1.f1 (L, none) < (s1.f1.size : Int)) = true := decide_eq_true (by rw [hat]; omega)
     have HR4 : Hid (zeroR 8 = r) := Lib.hid (by rw [← HR2.out, ← HRR.out]; simp [rTell, hL])
     clear HR2 HRR hat hsl hL
     obtain ⟨at_, hat⟩ : ∃ a, a = atOf s1.f1 (L, none) := ⟨_, rfl⟩
     rw [← hat] at hc1 t7
     clear hat
     go_upto_region 25 with fail
     refine wp_region_held_drew (S := fun w' => w'.cell? ⟨gc, 0, none⟩ = some (.string s1.f1) ∧ w'.cell? ⟨gc, 1, none⟩ = some (.int .i64 at_)) (by kernel_rfl) ⟨hc0, hc1⟩ (fun hHeld => ?_)
     have P1 := Lib.hid P.out.drew
     clear z0 z1 z2 z3 z4 q0 q1 q2 q3 q4
     clear j0 j1 j2 j3 j4 m0 m1 m2 m3 m4
     clear x0 x1 x2 x3 x4 y0 y1 y2 y3 y4
     clear P hc0 hc1 hc2
     generalize wc.drew = W1 at P1 hHeld ⊢
     refine tkz 0 rfl ?_ (.inl ⟨by rfl, ?_⟩) ?_
     rotate_left 1
     ·intro w hSw
      obtain ⟨s0, s1⟩ := hSw
      go_simp
      (try with_reducible rfl)
     (try simp only [Act.put, zq1, zq2, zq3, zq4, zq5, zq6])
     refine tkz 1 rfl ?_ (.inl ⟨by rfl, ?_⟩) ?_
     rotate_left 1
     ·intro w hSw
      obtain ⟨s0, s1⟩ := hSw
      go_simp
      (try with_reducible rfl)
     (try simp only [Act.put, zq1, zq2, zq3, zq4, zq5, zq6])
     refine tkz 2 rfl ?_ (.inl ⟨by rfl, ?_⟩) ?_
     rotate_left 1
     ·intro w hSw
      obtain ⟨s0, s1⟩ := hSw
      go_simp
      (try with_reducible rfl)
     (try simp only [Act.put, zq1, zq2, zq3, zq4, zq5, zq6])
     refine tkz 3 rfl ?_ (.inl ⟨by rfl, ?_⟩) ?_
     rotate_left 1
     ·intro w hSw
      obtain ⟨s0, s1⟩ := hSw
      go_simp
      (try with_reducible rfl)
     (try simp only [Act.put, zq1, zq2, zq3, zq4, zq5, zq6])
     refine tkz 4 rfl ?_ (.inl ⟨by rfl, ?_⟩) ?_
     rotate_left 1
     ·intro w hSw
      obtain ⟨s0, s1⟩ := hSw
      go_simp
      (try with_reducible rfl)
     (try simp only [Act.put, zq1, zq2, zq3, zq4, zq5, zq6])
     refine tkz 5 rfl ?_ (.inl ⟨by rfl, ?_⟩) ?_
     rotate_left 1
     ·intro w hSw
      obtain ⟨s0, s1⟩ := hSw
      go_simp
      (try with_reducible rfl)
     (try simp only [Act.put, zq1, zq2, zq3, zq4, zq5, zq6])
     refine tkz 6 rfl ?_ (.inl ⟨by rfl, ?_⟩) ?_
     rotate_left 1
     ·intro w hSw
      obtain ⟨s0, s1⟩ := hSw
      go_simp
      (try with_reducible rfl)
     (try simp only [Act.put, zq1, zq2, zq3, zq4, zq5, zq6])
     refine tkz 7 rfl ?_ (.inl ⟨by rfl, ?_⟩) ?_
     rotate_left 1
     ·intro w hSw
      obtain ⟨s0, s1⟩ := hSw
      go_simp
      (try with_reducible rfl)
     (try simp only [Act.put, zq1, zq2, zq3, zq4, zq5, zq6])
     refine tkz 8 rfl ?_ (.inl ⟨by rfl, ?_⟩) ?_
     rotate_left 1
     ·intro w hSw
      obtain ⟨s0, s1⟩ := hSw
      go_simp
      (try with_reducible rfl)
     (try simp only [Act.put, zq1, zq2, zq3, zq4, zq5, zq6])
     refine tkz 9 rfl ?_ (.inl ⟨by rfl, ?_⟩) ?_
     rotate_left 1
     ·intro w hSw
      obtain ⟨s0, s1⟩ := hSw
      go_simp
      (try with_reducible rfl)
     (try simp only [Act.put, zq1, zq2, zq3, zq4, zq5, zq6])
     refine wpAnyH_done (by kernel_rfl) ?_ _
     obtain ⟨⟨z0, z1, z2, z3, z4⟩, q0, q1, q2, q3, q4⟩ := C61.cells P1.out.zr
     obtain ⟨⟨j0, j1, j2, j3, j4⟩, m0, m1, m2, m3, m4⟩ := C61.cells P1.out.zn
     obtain ⟨⟨x0, x1, x2, x3, x4⟩, y0, y1, y2, y3, y4⟩ := C61.cells P1.out.box
     go_wp2_with fail
     refine bodyPost_ret (results_ct rfl _ _ gr 61 #[.int .u32 0, .int .i64 0, .int .i64 0, .slice none 0 0, .string ⟨#[]⟩] (0, 0) _ rfl (C61.set _ _ _ _ _ P1.out.zr) Try.underlying61 rfl (by kernel_rfl)) rfl ?_
     rw [← HR4.out]
     exact ⟨_, rfl, Kd.S_nil _ _ _ _ _, below57 _ _ _ _ _ P1.out.bel P1.out.le⟩
    ·have t7 : decide (atOf s1.f1 (L, none) < (s1.f1.size : Int)) = false := decide_eq_false (by rw [hat]; omega)
     have HR4 : Hid ((sum, len, way, ops, ⟨#[]⟩, 0) = r) := Lib.hid (by rw [← HR2.out, ← HRR.out]; simp [rTell, hL])
     clear HR2 HRR hat hsl hL
     obtain ⟨at_, hat⟩ : ∃ a, a = atOf s1.f1 (L, none) := ⟨_, rfl⟩
     rw [← hat] at hc1 t7
     clear hat
     go_upto_region 25 with fail
     refine wp_region_held_drew (S := fun w' => w'.cell? ⟨gc, 0, none⟩ = some (.string s1.f1) ∧ w'.cell? ⟨gc, 1, none⟩ = some (.int .i64 at_)) (by kernel_rfl) ⟨hc0, hc1⟩ (fun hHeld => ?_)
     have P1 := Lib.hid P.out.drew
     clear z0 z1 z2 z3 z4 q0 q1 q2 q3 q4
     clear j0 j1 j2 j3 j4 m0 m1 m2 m3 m4
     clear x0 x1 x2 x3 x4 y0 y1 y2 y3 y4
     clear P hc0 hc1 hc2
     generalize wc.drew = W1 at P1 hHeld ⊢
     refine tkz 0 rfl ?_ (.inl ⟨by rfl, ?_⟩) ?_
     rotate_left 1
     ·intro w hSw
      obtain ⟨s0, s1⟩ := hSw
      go_simp
      (try with_reducible rfl)
     (try simp only [Act.put, zq1, zq2, zq3, zq4, zq5, zq6])
     refine tkz 1 rfl ?_ (.inl ⟨by rfl, ?_⟩) ?_
     rotate_left 1
     ·intro w hSw
      obtain ⟨s0, s1⟩ := hSw
      go_simp
      (try with_reducible rfl)
     (try simp only [Act.put, zq1, zq2, zq3, zq4, zq5, zq6])
     refine tkz 2 rfl ?_ (.inl ⟨by rfl, ?_⟩) ?_
     rotate_left 1
     ·intro w hSw
      obtain ⟨s0, s1⟩ := hSw
      go_simp
      (try with_reducible rfl)
     (try simp only [Act.put, zq1, zq2, zq3, zq4, zq5, zq6])
     refine tkz 3 rfl ?_ (.inl ⟨by rfl, ?_⟩) ?_
     rotate_left 1
     ·intro w hSw
      obtain ⟨s0, s1⟩ := hSw
      go_simp
      (try with_reducible rfl)
     (try simp only [Act.put, zq1, zq2, zq3, zq4, zq5, zq6])
     refine tkz 4 rfl ?_ (.inl ⟨by rfl, ?_⟩) ?_
     rotate_left 1
     ·intro w hSw
      obtain ⟨s0, s1⟩ := hSw
      go_simp
      (try with_reducible rfl)
     (try simp only [Act.put, zq1, zq2, zq3, zq4, zq5, zq6])
     refine tkz 5 rfl ?_ (.inl ⟨by rfl, ?_⟩) ?_
     rotate_left 1
     ·intro w hSw
      obtain ⟨s0, s1⟩ := hSw
      go_simp
      (try with_reducible rfl)
     (try simp only [Act.put, zq1, zq2, zq3, zq4, zq5, zq6])
     refine tkz 6 rfl ?_ (.inl ⟨by rfl, ?_⟩) ?_
     rotate_left 1
     ·intro w hSw
      obtain ⟨s0, s1⟩ := hSw
      go_simp
      (try with_reducible rfl)
     (try simp only [Act.put, zq1, zq2, zq3, zq4, zq5, zq6])
     refine tkz 7 rfl ?_ (.inl ⟨by rfl, ?_⟩) ?_
     rotate_left 1
     ·intro w hSw
      obtain ⟨s0, s1⟩ := hSw
      go_simp
      (try with_reducible rfl)
     (try simp only [Act.put, zq1, zq2, zq3, zq4, zq5, zq6])
     refine tkz 8 rfl ?_ (.inl ⟨by rfl, ?_⟩) ?_
     rotate_left 1
     ·intro w hSw
      obtain ⟨s0, s1⟩ := hSw
      go_simp
      (try with_reducible rfl)
     (try simp only [Act.put, zq1, zq2, zq3, zq4, zq5, zq6])
     refine tkz 9 rfl ?_ (.inl ⟨by rfl, ?_⟩) ?_
     rotate_left 1
     ·intro w hSw
      obtain ⟨s0, s1⟩ := hSw
      go_simp
      (try with_reducible rfl)
     (try simp only [Act.put, zq1, zq2, zq3, zq4, zq5, zq6])
     refine wpAnyH_done (by kernel_rfl) ?_ _
     obtain ⟨⟨z0, z1, z2, z3, z4⟩, q0, q1, q2, q3, q4⟩ := C61.cells P1.out.zr
     obtain ⟨⟨j0, j1, j2, j3, j4⟩, m0, m1, m2, m3, m4⟩ := C61.cells P1.out.zn
     obtain ⟨⟨x0, x1, x2, x3, x4⟩, y0, y1, y2, y3, y4⟩ := C61.cells P1.out.box
     go_wp2_with fail
     refine bodyPost_ret (results_ct rfl _ _ gr 61 #[.int .u32 sum, .int .i64 len, .int .i64 way, .slice A3 n3 c3, .string ⟨#[]⟩] (0, 0) _ rfl (C61.set _ _ _ _ _ P1.out.zr) Try.underlying61 rfl (by kernel_rfl)) rfl ?_
     rw [← HR4.out]
     exact ⟨_, rfl, S_res61 _ _ _ _ _ P1.out.row P1.out.zr, below57 _ _ _ _ _ P1.out.bel P1.out.le⟩
theorem dioramaref24_Get.calls (k : Nat) (a0 : ByteArray) (r1 r2 r3 : Int) (r4 : List (S107)) (r5 : ByteArray) (r6 : Int) (w : World) (h : dioramaref24_Get.f k a0 = some (r1, r2, r3, r4, r5, r6)) :
  Calls Try.prog 40 #[.string a0] w fun e w' => ∃ v_ : Value, e = .returned (.tuple #[.agg #[.int .u32 r1, .int .i64 r2, .int .i64 r3, v_, .string r5], .int .i64 r6]) ∧ Kd.S k107 107 w' w.heap.size (fun _ => True) v_ r4 ∧ Below w.heap.size w w' := by
 unfold dioramaref24_Get.f at h
 obtain ⟨⟨v, l, e⟩, hg, h⟩ := Option.bind_eq_some_iff.mp h
 dsimp only at h
 by_cases he : e = 0
 ·rw [if_neg (fun h_ => h_ he)] at h
  by_cases hv : v = 2
  ·rw [if_neg (fun h_ => h_ hv)] at h
   match l, hg, h with
   | [s0, s1], hg, h =>
    dsimp only at h
    by_cases h0 : s0.f0 = 1
    ·by_cases h1 : s1.f0 = 2
     ·by_cases h9 : s0.f1.size = 9
      ·rw [if_neg (by simp [h0, h1, h9])] at h
       obtain ⟨sum, hs, h⟩ := Option.bind_eq_some_iff.mp h
       obtain ⟨len, hn, h⟩ := Option.bind_eq_some_iff.mp h
       by_cases hln : 0 ≤ sum ∧ sum ≤ 4294967295
       ·rw [if_pos hln] at h
        by_cases hsz : s1.f1.size ≤ 1099511627776
        ·rw [if_pos hsz] at h
         by_cases hkk : 3 * roundsOf s1.f1 ≤ k
         ·rw [if_pos hkk] at h
          exact rget_good k a0 w _ _ _ hg he hv s0 s1 rfl h0 h1 h9 sum len _ hs hn hln rfl hsz hkk _ (Option.some.inj h)
         ·rw [if_neg hkk] at h; cases h
        ·rw [if_neg hsz] at h; cases h
       ·rw [if_neg hln] at h; cases h
      ·rw [if_pos (by simp [h9])] at h
       cases h
       exact rget_size k a0 w _ _ _ hg he hv s0 s1 rfl h0 h1 h9
     ·rw [if_pos (by simp [h1])] at h
      cases h
      exact rget_id1 k a0 w _ _ _ hg he hv s0 s1 rfl h0 h1
    ·rw [if_pos (by simp [h0])] at h
     cases h
     exact rget_id0 k a0 w _ _ _ hg he hv s0 s1 rfl h0
   | [], hg, h => cases h; exact rget_len k a0 w _ _ _ hg he hv (by simp)
   | [_], hg, h => cases h; exact rget_len k a0 w _ _ _ hg he hv (by simp)
   | _ :: _ :: _ :: _, hg, h => cases h; exact rget_len k a0 w _ _ _ hg he hv (by simp)
  ·rw [if_pos hv] at h
   cases h
   exact rget_ver k a0 w _ _ _ hg he hv
 ·rw [if_pos he] at h
  cases h
  exact rget_err k a0 w _ _ _ hg he
end Go.Proofs.Ytdjpelcdijpihaa.PrintF
