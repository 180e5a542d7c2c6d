-- Written by wip/xprint.py of this work: the printer of the kit, with contracts of this work beside it, shortened.
import Derived.Test.YtkbjjamaneiijaaDoorShort
import Derived.Test.YtkbjjamaneiijaaDoorPTxtx0
import Derived.Test.YtkbjjamaneiijaaDoorPTxtx8
import Derived.Test.YtkbjjamaneiijaaDoorPTxtx10
import Derived.Test.YtkbjjamaneiijaaDoorPTxtx14
import Derived.Test.YtkbjjamaneiijaaDoorPTxtx16
namespace Go.Proofs.YtkbjjamaneiijaaDoor.PTxt
open Go.RowKit Go.Proofs.YtkbjjamaneiijaaDoor.Short Go.Proofs.YtkbjjamaneiijaaDoorW.PrintWords Go.Proofs.YtkbjjamaneiijaaDoorW.PrintLast Go.Proofs.YtkbjjamaneiijaaDoorW.PrintMore
attribute [local go_sem] max2_int min2_int max_two min_two max_three min_three max_four min_four   -- for this text's walks alone
set_option linter.unusedVariables false
set_option linter.unusedSimpArgs false

/-! ### maquettelaw07_TextClause: function 9 -/
def maquettelaw07_TextClause.j0 : Nat → Bool → Bool → Int → Int → Int → Int → Bool → Int → Int → Int → Int → Int → Int → Int → Int → Int → Int → Option (Bool)
 | 0, _, _, _, _, _, _, _, _, _, _, _, _, _, _, _, _, _ => none
 | k + 1, x14, x153000, x153001, x153002, x153003, x153004, x153005, x153006, x153007, x153008, x153009, x154000, x154001, x154002, x154003, x154004, x154005 => if x14 = true then (some true) else ((text_Clause.f k x153000 x153001 x153002 x153003 x153004 x153005 x153006 x153007 x153008 x153009).bind fun t155 => ((maquettelaw07_line.f k x153000 x153001 x153002 x153003 x153004 x153005 x153006 x153007 x153008 x153009).bind fun t156 => (if t155.toList = t156.toList then ((maquettelaw07_Rule_Clause.f k x154000 x154001 x154002 x154003 x154004 x154005).bind fun bt157 => ((text_Clause.f k bt157.1 bt157.2.1 bt157.2.2.1 bt157.2.2.2.1 bt157.2.2.2.2.1 bt157.2.2.2.2.2.1 bt157.2.2.2.2.2.2.1 bt157.2.2.2.2.2.2.2.1 bt157.2.2.2.2.2.2.2.2.1 bt157.2.2.2.2.2.2.2.2.2).bind fun t167 => ((maquettelaw07_Rule_Clause.f k x154000 x154001 x154002 x154003 x154004 x154005).bind fun bt168 => ((maquettelaw07_line.f k bt168.1 bt168.2.1 bt168.2.2.1 bt168.2.2.2.1 bt168.2.2.2.2.1 bt168.2.2.2.2.2.1 bt168.2.2.2.2.2.2.1 bt168.2.2.2.2.2.2.2.1 bt168.2.2.2.2.2.2.2.2.1 bt168.2.2.2.2.2.2.2.2.2).bind fun t178 => (some (t167.toList == t178.toList)))))) else (some false))))
def maquettelaw07_TextClause.f (k : Nat) (a0_0 : Bool) (a0_1 : Int) (a0_2 : Int) (a0_3 : Int) (a0_4 : Int) (a0_5 : Bool) (a0_6 : Int) (a0_7 : Int) (a0_8 : Int) (a0_9 : Int) (a1_0 : Int) (a1_1 : Int) (a1_2 : Int) (a1_3 : Int) (a1_4 : Int) (a1_5 : Int) : Option (Bool) := (maquettelaw07_awake.f k).bind fun t154 => (if t154 = true then (if a0_8 < (-999999) then (maquettelaw07_TextClause.j0 k true a0_0 a0_1 a0_2 a0_3 a0_4 a0_5 a0_6 a0_7 a0_8 a0_9 a1_0 a1_1 a1_2 a1_3 a1_4 a1_5) else (maquettelaw07_TextClause.j0 k (decide (a0_9 < (-999999))) a0_0 a0_1 a0_2 a0_3 a0_4 a0_5 a0_6 a0_7 a0_8 a0_9 a1_0 a1_1 a1_2 a1_3 a1_4 a1_5)) else (some false))
theorem maquettelaw07_TextClause.mono_l : ∀ k, (∀ y0 y1 y2 y3 y4 y5 y6 y7 y8 y9 y10 y11 y12 y13 y14 y15 y16, LeO (maquettelaw07_TextClause.j0 k y0 y1 y2 y3 y4 y5 y6 y7 y8 y9 y10 y11 y12 y13 y14 y15 y16) (maquettelaw07_TextClause.j0 (k + 1) y0 y1 y2 y3 y4 y5 y6 y7 y8 y9 y10 y11 y12 y13 y14 y15 y16))
 | 0 => fun _ _ _ _ _ _ _ _ _ _ _ _ _ _ _ _ _ r h => by simp [maquettelaw07_TextClause.j0] at h
 | k + 1 => by
  have ih0 := maquettelaw07_TextClause.mono_l k
  ·intro y0 y1 y2 y3 y4 y5 y6 y7 y8 y9 y10 y11 y12 y13 y14 y15 y16
   unfold maquettelaw07_TextClause.j0
   repeat' first
   | (with_reducible exact ih0 _ _ _ _ _ _ _ _ _ _ _ _ _ _ _ _ _)
   | (with_reducible exact maquettelaw07_Rule_Clause.mono _ _ _ _ _ _ _)
   | (with_reducible exact maquettelaw07_awake.mono _)
   | (with_reducible exact maquettelaw07_line.mono _ _ _ _ _ _ _ _ _ _ _)
   | (with_reducible exact text_Clause.mono _ _ _ _ _ _ _ _ _ _ _)
   | (with_reducible exact LeO.refl _)
   | (with_reducible exact LeO.none _)
   | (with_reducible refine LeO.ite ?_ ?_)
   | (with_reducible refine LeO.bind ?_ (fun _ => ?_))
   | exact ih0 _ _ _ _ _ _ _ _ _ _ _ _ _ _ _ _ _
   | exact maquettelaw07_Rule_Clause.mono _ _ _ _ _ _ _
   | exact maquettelaw07_awake.mono _
   | exact maquettelaw07_line.mono _ _ _ _ _ _ _ _ _ _ _
   | exact text_Clause.mono _ _ _ _ _ _ _ _ _ _ _
   | exact LeO.none _
   | refine LeO.ite ?_ ?_
   | refine LeO.bind ?_ (fun _ => ?_)
theorem maquettelaw07_TextClause.mono : ∀ a0 a1 a2 a3 a4 a5 a6 a7 a8 a9 a10 a11 a12 a13 a14 a15 k, LeO (maquettelaw07_TextClause.f k a0 a1 a2 a3 a4 a5 a6 a7 a8 a9 a10 a11 a12 a13 a14 a15) (maquettelaw07_TextClause.f (k + 1) a0 a1 a2 a3 a4 a5 a6 a7 a8 a9 a10 a11 a12 a13 a14 a15) := by
 intro a0 a1 a2 a3 a4 a5 a6 a7 a8 a9 a10 a11 a12 a13 a14 a15 k
 have ih0 := maquettelaw07_TextClause.mono_l k
 unfold maquettelaw07_TextClause.f
 repeat' first
   | (with_reducible exact ih0 _ _ _ _ _ _ _ _ _ _ _ _ _ _ _ _ _)
   | (with_reducible exact maquettelaw07_Rule_Clause.mono _ _ _ _ _ _ _)
   | (with_reducible exact maquettelaw07_awake.mono _)
   | (with_reducible exact maquettelaw07_line.mono _ _ _ _ _ _ _ _ _ _ _)
   | (with_reducible exact text_Clause.mono _ _ _ _ _ _ _ _ _ _ _)
   | (with_reducible exact LeO.refl _)
   | (with_reducible exact LeO.none _)
   | (with_reducible refine LeO.ite ?_ ?_)
   | (with_reducible refine LeO.bind ?_ (fun _ => ?_))
   | exact ih0 _ _ _ _ _ _ _ _ _ _ _ _ _ _ _ _ _
   | exact maquettelaw07_Rule_Clause.mono _ _ _ _ _ _ _
   | exact maquettelaw07_awake.mono _
   | exact maquettelaw07_line.mono _ _ _ _ _ _ _ _ _ _ _
   | exact text_Clause.mono _ _ _ _ _ _ _ _ _ _ _
   | exact LeO.none _
   | refine LeO.ite ?_ ?_
   | refine LeO.bind ?_ (fun _ => ?_)
def maquettelaw07_TextClause.T5 : Bool × List (List Nat × List Nat) := (true, [([], []), ([0], [0]), ([], []), ([2, 1], [2]), ([1, 3], [1, 3]), ([4, 3], [4]), ([5], [5]), ([6, 5, 5], [5, 6]), ([7, 7, 5], [5, 7]), ([5], [5]), ([9, 8, 5], [5, 9]), ([10, 10, 5], [5, 10]), ([8, 11, 5], [5, 8, 11]), ([5, 12], [5, 12]), ([13, 11, 0, 1, 2, 3, 4, 5, 6, 7, 8, 9, 10, 11, 12, 13], [13])])
def maquettelaw07_TextClause.B5 : List Nat := [0, 1, 0, 7, 15, 31, 63, 127, 255, 63, 1023, 2047, 4095, 8191, 16383]
theorem maquettelaw07_TextClause.tab5 : rtab .any (opsOf Tryd.f9 5) = maquettelaw07_TextClause.T5 := by kernel_rfl
theorem maquettelaw07_TextClause.bits5 : waitsOk maquettelaw07_TextClause.T5.2 maquettelaw07_TextClause.B5 = true := by kernel_rfl
set_option maxHeartbeats 8000000 in
set_option maxRecDepth 100000 in
theorem maquettelaw07_TextClause.calls (k : Nat) (a0_0 : Bool) (a0_1 : Int) (a0_2 : Int) (a0_3 : Int) (a0_4 : Int) (a0_5 : Bool) (a0_6 : Int) (a0_7 : Int) (a0_8 : Int) (a0_9 : Int) (a1_0 : Int) (a1_1 : Int) (a1_2 : Int) (a1_3 : Int) (a1_4 : Int) (a1_5 : Int) (r : Bool) (w : World) (h : maquettelaw07_TextClause.f k a0_0 a0_1 a0_2 a0_3 a0_4 a0_5 a0_6 a0_7 a0_8 a0_9 a1_0 a1_1 a1_2 a1_3 a1_4 a1_5 = some r) (hInv : Go.Proofs.YtkbjjamaneiijaaDoor.InvT.Inv w) :
  Calls Tryd.prog 9 #[.agg #[.bool a0_0, .int .u32 a0_1, .int .i64 a0_2, .int .u8 a0_3, .int .u8 a0_4, .bool a0_5, .int .u8 a0_6, .int .u8 a0_7, .int .i64 a0_8, .int .i64 a0_9], .agg #[.int .u8 a1_0, .int .u8 a1_1, .int .u8 a1_2, .int .u8 a1_3, .int .u8 a1_4, .int .u8 a1_5]] w fun e w' => e = .returned (.bool r) ∧ Below w.heap.size w w' := by
 have hu42 := Tryd.underlying42
 have hu44 := Tryd.underlying44
 have HB := Aside0.mk (Below.refl w.heap.size w)
 have H : ((maquettelaw07_awake.f k).bind fun t154 => (if t154 = true then (if a0_8 < (-999999) then (maquettelaw07_TextClause.j0 k true a0_0 a0_1 a0_2 a0_3 a0_4 a0_5 a0_6 a0_7 a0_8 a0_9 a1_0 a1_1 a1_2 a1_3 a1_4 a1_5) else (maquettelaw07_TextClause.j0 k (decide (a0_9 < (-999999))) a0_0 a0_1 a0_2 a0_3 a0_4 a0_5 a0_6 a0_7 a0_8 a0_9 a1_0 a1_1 a1_2 a1_3 a1_4 a1_5)) else (some false))) = some r := h
 clear h
 replace H := Option.bind_eq_some_iff.mp H
 obtain ⟨t154, A30, H⟩ := H
 replace H : (if t154 = true then (if a0_8 < (-999999) then (maquettelaw07_TextClause.j0 k true a0_0 a0_1 a0_2 a0_3 a0_4 a0_5 a0_6 a0_7 a0_8 a0_9 a1_0 a1_1 a1_2 a1_3 a1_4 a1_5) else (maquettelaw07_TextClause.j0 k (decide (a0_9 < (-999999))) a0_0 a0_1 a0_2 a0_3 a0_4 a0_5 a0_6 a0_7 a0_8 a0_9 a1_0 a1_1 a1_2 a1_3 a1_4 a1_5)) else (some false)) = some r := H
 have A3 := Aside0.mk A30
 clear A30
 by_cases c4 : t154 = true
 ·subst c4
  have H1 : (if a0_8 < (-999999) then (maquettelaw07_TextClause.j0 k true a0_0 a0_1 a0_2 a0_3 a0_4 a0_5 a0_6 a0_7 a0_8 a0_9 a1_0 a1_1 a1_2 a1_3 a1_4 a1_5) else (maquettelaw07_TextClause.j0 k (decide (a0_9 < (-999999))) a0_0 a0_1 a0_2 a0_3 a0_4 a0_5 a0_6 a0_7 a0_8 a0_9 a1_0 a1_1 a1_2 a1_3 a1_4 a1_5)) = some r := by rw [if_pos rfl] at H; exact H
  clear H
  have H := H1
  clear H1
  have HC5 := Aside0.mk H
  clear H
  go_enter Tryd.func9, Tryd.ntmps9
  go_upto_region 3 with (first | ((with_reducible refine gate_dst (N := 2) rfl ?_); refine bx 2 (cs := #[.bool a0_0, .int .u32 a0_1, .int .i64 a0_2, .int .u8 a0_3, .int .u8 a0_4, .bool a0_5, .int .u8 a0_6, .int .u8 a0_7, .int .i64 a0_8, .int .i64 a0_9]) (t := 42) (h := ?_); intro gb152 hg w6 hbox hb; have BK152 := Aside0.mk hbox; have GW152 : Aside0 (w.heap.size ≤ gb152) := bge hg; have GE152 : Aside0 (w.heap.size ≤ gb152) := bge hg; replace HB := bst hb; clear hb hbox hg) | ((with_reducible refine gate_dst (N := 3) rfl ?_); refine bx 3 (cs := #[.int .u8 a1_0, .int .u8 a1_1, .int .u8 a1_2, .int .u8 a1_3, .int .u8 a1_4, .int .u8 a1_5]) (t := 44) (h := ?_); intro gb153 hg w7 hbox hb; have BK153 := Aside0.mk hbox; have GW153 : Aside0 (w.heap.size ≤ gb153) := bge hg; have GE153 : Aside0 (w.heap.size ≤ gb153) := bge hg; have NB152_153 := bne BK152 hg; have NB153_152 := bnf BK152 hg; replace BK152 := bkb BK152 hb; replace HB := bst hb; clear hb hbox hg) | ((with_reducible refine gate_dst (N := 5) rfl ?_); refine gl (some 5) Tryd.func26 #[] ?_; (with_reducible refine (maquettelaw07_awake.calls k  true _ A3.out (by with_reducible first | exact hInv | exact Go.Proofs.YtkbjjamaneiijaaDoor.InvT.Inv.below hInv HB.out | exact Go.Proofs.YtkbjjamaneiijaaDoor.InvT.Inv.below hInv bel | (repeat (first | exact hInv | exact Go.Proofs.YtkbjjamaneiijaaDoor.InvT.Inv.below hInv HB.out | exact Go.Proofs.YtkbjjamaneiijaaDoor.InvT.Inv.below hInv bel | apply Go.Proofs.YtkbjjamaneiijaaDoor.InvT.Inv.alloc | apply Go.Proofs.YtkbjjamaneiijaaDoor.InvT.Inv.drewN | apply Go.Proofs.YtkbjjamaneiijaaDoor.InvT.Inv.drew)))).mono ?_); rintro e w8 ⟨rfl, hb⟩; refine ⟨_, rfl, ?_⟩; replace BK152 := bkb BK152 hb; replace BK153 := bkb BK153 hb; replace HB := bst hb; (try clear hb); (try clear hb2); (try clear hk); (try clear hi)))
  (try simp only [Act.put, List.setIfInBounds_toArray, List.set_cons_zero, List.set_cons_succ])
  go_cut [14] (fun v14 wc => ∃ (kq : Nat) (x14_4 : Bool), v14 = .bool x14_4 ∧ Aside0 (maquettelaw07_TextClause.j0 kq x14_4 a0_0 a0_1 a0_2 a0_3 a0_4 a0_5 a0_6 a0_7 a0_8 a0_9 a1_0 a1_1 a1_2 a1_3 a1_4 a1_5 = some r) ∧ Aside0 (kq ≤ k) ∧ Aside0 (wc.heap[gb152]? = some (.cells #[.bool a0_0, .int .u32 a0_1, .int .i64 a0_2, .int .u8 a0_3, .int .u8 a0_4, .bool a0_5, .int .u8 a0_6, .int .u8 a0_7, .int .i64 a0_8, .int .i64 a0_9] 42 (0, 0))) ∧ Aside0 (wc.heap[gb153]? = some (.cells #[.int .u8 a1_0, .int .u8 a1_1, .int .u8 a1_2, .int .u8 a1_3, .int .u8 a1_4, .int .u8 a1_5] 44 (0, 0))) ∧ Aside0 (Below w.heap.size w wc))
  case first =>
   have H := HC5.out
   clear HC5
   by_cases c9 : a0_8 < (-999999)
   ·rw [if_pos c9] at H
    have c9b0 : decide (a0_8 < (-999999)) = true := decide_eq_true c9
    clear c9
    (first | rw [c9b0] | (simp only [i64_w, i32_w]; rw [c9b0]) | skip)
    have H' := Aside0.mk H
    clear H
    have hnb10 := NB152_153.out
    have hnc10 := NB153_152.out
    obtain ⟨hcz11_0, hcz11_1, hcz11_2, hcz11_3, hcz11_4, hcz11_5, hcz11_6, hcz11_7, hcz11_8, hcz11_9, hfz11_0, hfz11_1, hfz11_2, hfz11_3, hfz11_4, hfz11_5, hfz11_6, hfz11_7, hfz11_8, hfz11_9⟩ := bc10 BK152
    go_wp2
    go_meet
    case rel => exact ⟨_, (true), (by first | rfl | (simp; done) | (simp [*]; done)), H', ⟨by first | omega | exact Nat.le_refl _⟩, ⟨bkq BK152⟩, ⟨bkq BK153⟩, ⟨by repeat (first | (with_reducible first | exact HB.out | apply below_alloc | apply pw_below_drewN | apply below_drew1 | refine below_set ?_ GE152.out | refine below_set ?_ GE153.out) | exact HB.out)⟩⟩
   ·rw [if_neg c9] at H
    have c9b0 : decide (a0_8 < (-999999)) = false := decide_eq_false c9
    clear c9
    (first | rw [c9b0] | (simp only [i64_w, i32_w]; rw [c9b0]) | skip)
    have H' := Aside0.mk H
    clear H
    have hnb12 := NB152_153.out
    have hnc12 := NB153_152.out
    obtain ⟨hcz13_0, hcz13_1, hcz13_2, hcz13_3, hcz13_4, hcz13_5, hcz13_6, hcz13_7, hcz13_8, hcz13_9, hfz13_0, hfz13_1, hfz13_2, hfz13_3, hfz13_4, hfz13_5, hfz13_6, hfz13_7, hfz13_8, hfz13_9⟩ := bc10 BK152
    go_wp2
    go_meet
    case rel => exact ⟨_, (decide (a0_9 < (-999999))), (by first | rfl | (simp; done) | (simp [*]; done)), H', ⟨by first | omega | exact Nat.le_refl _⟩, ⟨bkq BK152⟩, ⟨bkq BK153⟩, ⟨by repeat (first | (with_reducible first | exact HB.out | apply below_alloc | apply pw_below_drewN | apply below_drew1 | refine below_set ?_ GE152.out | refine below_set ?_ GE153.out) | exact HB.out)⟩⟩
  case rest =>
   clear HC5
   try clear c1
   try clear c2
   try clear p2
   try clear c4
   try clear c9
   try clear c9b0
   try clear c10
   try clear c12
   try clear hcz11_0 hcz11_1 hcz11_2 hcz11_3 hcz11_4 hcz11_5 hcz11_6 hcz11_7 hcz11_8 hcz11_9 hfz11_0 hfz11_1 hfz11_2 hfz11_3 hfz11_4 hfz11_5 hfz11_6 hfz11_7 hfz11_8 hfz11_9
   try clear hcz13_0 hcz13_1 hcz13_2 hcz13_3 hcz13_4 hcz13_5 hcz13_6 hcz13_7 hcz13_8 hcz13_9 hfz13_0 hfz13_1 hfz13_2 hfz13_3 hfz13_4 hfz13_5 hfz13_6 hfz13_7 hfz13_8 hfz13_9
   obtain ⟨kq, x14_4, rfl, HA, HJ4, BK152, BK153, HB⟩ := hcut
   cases kq with
   | zero => exact absurd HA.out (by simp [maquettelaw07_TextClause.j0])
   | succ kj4 =>
    have H := HA.out
    clear HA
    simp only [maquettelaw07_TextClause.j0] at H
    by_cases c14 : x14_4 = true
    ·subst c14
     have H1 : (some true) = some r := by rw [if_pos rfl] at H; exact H
     clear H
     have H := H1
     clear H1
     obtain rfl := Option.some.inj H
     go_wp2
     go_ret
     exact ⟨by first | rfl | (simp [errW_none, errW_some] <;> rfl) | (simp [*, errW_none, errW_some] <;> rfl), by repeat (first | (with_reducible first | exact HB.out | apply below_alloc | apply pw_below_drewN | apply below_drew1 | refine below_set ?_ GE152.out | refine below_set ?_ GE153.out) | exact HB.out)⟩
    ·replace c14 := Bool.eq_false_iff.mpr c14
     subst c14
     have H1 : ((text_Clause.f kj4 a0_0 a0_1 a0_2 a0_3 a0_4 a0_5 a0_6 a0_7 a0_8 a0_9).bind fun t155 => ((maquettelaw07_line.f kj4 a0_0 a0_1 a0_2 a0_3 a0_4 a0_5 a0_6 a0_7 a0_8 a0_9).bind fun t156 => (if t155.toList = t156.toList then ((maquettelaw07_Rule_Clause.f kj4 a1_0 a1_1 a1_2 a1_3 a1_4 a1_5).bind fun bt157 => ((text_Clause.f kj4 bt157.1 bt157.2.1 bt157.2.2.1 bt157.2.2.2.1 bt157.2.2.2.2.1 bt157.2.2.2.2.2.1 bt157.2.2.2.2.2.2.1 bt157.2.2.2.2.2.2.2.1 bt157.2.2.2.2.2.2.2.2.1 bt157.2.2.2.2.2.2.2.2.2).bind fun t167 => ((maquettelaw07_Rule_Clause.f kj4 a1_0 a1_1 a1_2 a1_3 a1_4 a1_5).bind fun bt168 => ((maquettelaw07_line.f kj4 bt168.1 bt168.2.1 bt168.2.2.1 bt168.2.2.2.1 bt168.2.2.2.2.1 bt168.2.2.2.2.2.1 bt168.2.2.2.2.2.2.1 bt168.2.2.2.2.2.2.2.1 bt168.2.2.2.2.2.2.2.2.1 bt168.2.2.2.2.2.2.2.2.2).bind fun t178 => (some (t167.toList == t178.toList)))))) else (some false)))) = some r := by rw [if_neg (show ¬ (false = true) by decide)] at H; exact H
     clear H
     have H := H1
     clear H1
     replace H := Option.bind_eq_some_iff.mp H
     obtain ⟨t155, A150, H⟩ := H
     replace H : ((maquettelaw07_line.f kj4 a0_0 a0_1 a0_2 a0_3 a0_4 a0_5 a0_6 a0_7 a0_8 a0_9).bind fun t156 => (if t155.toList = t156.toList then ((maquettelaw07_Rule_Clause.f kj4 a1_0 a1_1 a1_2 a1_3 a1_4 a1_5).bind fun bt157 => ((text_Clause.f kj4 bt157.1 bt157.2.1 bt157.2.2.1 bt157.2.2.2.1 bt157.2.2.2.2.1 bt157.2.2.2.2.2.1 bt157.2.2.2.2.2.2.1 bt157.2.2.2.2.2.2.2.1 bt157.2.2.2.2.2.2.2.2.1 bt157.2.2.2.2.2.2.2.2.2).bind fun t167 => ((maquettelaw07_Rule_Clause.f kj4 a1_0 a1_1 a1_2 a1_3 a1_4 a1_5).bind fun bt168 => ((maquettelaw07_line.f kj4 bt168.1 bt168.2.1 bt168.2.2.1 bt168.2.2.2.1 bt168.2.2.2.2.1 bt168.2.2.2.2.2.1 bt168.2.2.2.2.2.2.1 bt168.2.2.2.2.2.2.2.1 bt168.2.2.2.2.2.2.2.2.1 bt168.2.2.2.2.2.2.2.2.2).bind fun t178 => (some (t167.toList == t178.toList)))))) else (some false))) = some r := H
     have A15 := Aside0.mk A150
     clear A150
     replace H := Option.bind_eq_some_iff.mp H
     obtain ⟨t156, A160, H⟩ := H
     replace H : (if t155.toList = t156.toList then ((maquettelaw07_Rule_Clause.f kj4 a1_0 a1_1 a1_2 a1_3 a1_4 a1_5).bind fun bt157 => ((text_Clause.f kj4 bt157.1 bt157.2.1 bt157.2.2.1 bt157.2.2.2.1 bt157.2.2.2.2.1 bt157.2.2.2.2.2.1 bt157.2.2.2.2.2.2.1 bt157.2.2.2.2.2.2.2.1 bt157.2.2.2.2.2.2.2.2.1 bt157.2.2.2.2.2.2.2.2.2).bind fun t167 => ((maquettelaw07_Rule_Clause.f kj4 a1_0 a1_1 a1_2 a1_3 a1_4 a1_5).bind fun bt168 => ((maquettelaw07_line.f kj4 bt168.1 bt168.2.1 bt168.2.2.1 bt168.2.2.2.1 bt168.2.2.2.2.1 bt168.2.2.2.2.2.1 bt168.2.2.2.2.2.2.1 bt168.2.2.2.2.2.2.2.1 bt168.2.2.2.2.2.2.2.2.1 bt168.2.2.2.2.2.2.2.2.2).bind fun t178 => (some (t167.toList == t178.toList)))))) else (some false)) = some r := H
     have A16 := Aside0.mk A160
     clear A160
     by_cases c17 : t155.toList = t156.toList
     ·rw [if_pos c17] at H
      have c17b0 : (t155.toList == t156.toList) = true := beq_iff_eq.mpr c17
      have c17b1 : (t155.toList != t156.toList) = false := bne_eq_false_iff_eq.mpr c17
      clear c17
      replace H := Option.bind_eq_some_iff.mp H
      obtain ⟨⟨t157, t158, t159, t160, t161, t162, t163, t164, t165, t166⟩, A180, H⟩ := H
      replace H : ((text_Clause.f kj4 t157 t158 t159 t160 t161 t162 t163 t164 t165 t166).bind fun t167 => ((maquettelaw07_Rule_Clause.f kj4 a1_0 a1_1 a1_2 a1_3 a1_4 a1_5).bind fun bt168 => ((maquettelaw07_line.f kj4 bt168.1 bt168.2.1 bt168.2.2.1 bt168.2.2.2.1 bt168.2.2.2.2.1 bt168.2.2.2.2.2.1 bt168.2.2.2.2.2.2.1 bt168.2.2.2.2.2.2.2.1 bt168.2.2.2.2.2.2.2.2.1 bt168.2.2.2.2.2.2.2.2.2).bind fun t178 => (some (t167.toList == t178.toList))))) = some r := H
      have A18 := Aside0.mk A180
      clear A180
      replace H := Option.bind_eq_some_iff.mp H
      obtain ⟨t167, A190, H⟩ := H
      replace H : ((maquettelaw07_Rule_Clause.f kj4 a1_0 a1_1 a1_2 a1_3 a1_4 a1_5).bind fun bt168 => ((maquettelaw07_line.f kj4 bt168.1 bt168.2.1 bt168.2.2.1 bt168.2.2.2.1 bt168.2.2.2.2.1 bt168.2.2.2.2.2.1 bt168.2.2.2.2.2.2.1 bt168.2.2.2.2.2.2.2.1 bt168.2.2.2.2.2.2.2.2.1 bt168.2.2.2.2.2.2.2.2.2).bind fun t178 => (some (t167.toList == t178.toList)))) = some r := H
      have A19 := Aside0.mk A190
      clear A190
      replace H := Option.bind_eq_some_iff.mp H
      obtain ⟨⟨t168, t169, t170, t171, t172, t173, t174, t175, t176, t177⟩, A200, H⟩ := H
      replace H : ((maquettelaw07_line.f kj4 t168 t169 t170 t171 t172 t173 t174 t175 t176 t177).bind fun t178 => (some (t167.toList == t178.toList))) = some r := H
      have A20 := Aside0.mk A200
      clear A200
      replace H := Option.bind_eq_some_iff.mp H
      obtain ⟨t178, A210, H⟩ := H
      replace H : (some (t167.toList == t178.toList)) = some r := H
      have A21 := Aside0.mk A210
      clear A210
      obtain rfl := Option.some.inj H
      try go_wp2
      replace BK152 := Aside0.mk (blk_drew BK152.out)
      replace BK153 := Aside0.mk (blk_drew BK153.out)
      replace HB := Aside0.mk (below_drew1 HB.out)
      refine start_ (n := 15) (S := fun w' => w'.cell? ⟨gb152, 0, none⟩ = some (.bool a0_0) ∧ w'.cell? ⟨gb152, 1, none⟩ = some (.int .u32 a0_1) ∧ w'.cell? ⟨gb152, 2, none⟩ = some (.int .i64 a0_2) ∧ w'.cell? ⟨gb152, 3, none⟩ = some (.int .u8 a0_3) ∧ w'.cell? ⟨gb152, 4, none⟩ = some (.int .u8 a0_4) ∧ w'.cell? ⟨gb152, 5, none⟩ = some (.bool a0_5) ∧ w'.cell? ⟨gb152, 6, none⟩ = some (.int .u8 a0_6) ∧ w'.cell? ⟨gb152, 7, none⟩ = some (.int .u8 a0_7) ∧ w'.cell? ⟨gb152, 8, none⟩ = some (.int .i64 a0_8) ∧ w'.cell? ⟨gb152, 9, none⟩ = some (.int .i64 a0_9) ∧ w'.cell? ⟨gb153, 0, none⟩ = some (.int .u8 a1_0) ∧ w'.cell? ⟨gb153, 1, none⟩ = some (.int .u8 a1_1) ∧ w'.cell? ⟨gb153, 2, none⟩ = some (.int .u8 a1_2) ∧ w'.cell? ⟨gb153, 3, none⟩ = some (.int .u8 a1_3) ∧ w'.cell? ⟨gb153, 4, none⟩ = some (.int .u8 a1_4) ∧ w'.cell? ⟨gb153, 5, none⟩ = some (.int .u8 a1_5)) (ds := []) #[false, false, false, false, false, false, false, false, false, false, false, false, false, false, false] (by kernel_rfl) rfl rfl ⟨(blk_cell BK152.out 0).trans rfl, (blk_cell BK152.out 1).trans rfl, (blk_cell BK152.out 2).trans rfl, (blk_cell BK152.out 3).trans rfl, (blk_cell BK152.out 4).trans rfl, (blk_cell BK152.out 5).trans rfl, (blk_cell BK152.out 6).trans rfl, (blk_cell BK152.out 7).trans rfl, (blk_cell BK152.out 8).trans rfl, (blk_cell BK152.out 9).trans rfl, (blk_cell BK153.out 0).trans rfl, (blk_cell BK153.out 1).trans rfl, (blk_cell BK153.out 2).trans rfl, (blk_cell BK153.out 3).trans rfl, (blk_cell BK153.out 4).trans rfl, (blk_cell BK153.out 5).trans rfl⟩ (fun hHeld => ?_); refine with_tabW maquettelaw07_TextClause.tab5 maquettelaw07_TextClause.bits5 (fun HT_ HW_ => ?_)
      generalize wc.drew = w22 at BK152 BK153 HB hHeld ⊢
      refine tk HT_ HW_ 0 (some 15) (mk 15 1) hHeld ?_
      refine tk HT_ HW_ 2 (some 17) (mk 15 5) hHeld ?_
      refine on HT_ 1 (some 16) (mk 15 7) fun K hK => ?_
      refine go1 Tryd.func27 #[.agg #[.bool a0_0, .int .u32 a0_1, .int .i64 a0_2, .int .u8 a0_3, .int .u8 a0_4, .bool a0_5, .int .u8 a0_6, .int .u8 a0_7, .int .i64 a0_8, .int .i64 a0_9]] ?_
      with_reducible refine (text_Clause.calls kj4 a0_0 a0_1 a0_2 a0_3 a0_4 a0_5 a0_6 a0_7 a0_8 a0_9 t155 _ A15.out (by with_reducible first | exact hInv | exact Go.Proofs.YtkbjjamaneiijaaDoor.InvT.Inv.below hInv HB.out | exact Go.Proofs.YtkbjjamaneiijaaDoor.InvT.Inv.below hInv bel | (repeat (first | exact hInv | exact Go.Proofs.YtkbjjamaneiijaaDoor.InvT.Inv.below hInv HB.out | exact Go.Proofs.YtkbjjamaneiijaaDoor.InvT.Inv.below hInv bel | apply Go.Proofs.YtkbjjamaneiijaaDoor.InvT.Inv.alloc | apply Go.Proofs.YtkbjjamaneiijaaDoor.InvT.Inv.drewN | apply Go.Proofs.YtkbjjamaneiijaaDoor.InvT.Inv.drew)))).mono ?_
      rintro e w23 ⟨rfl, hb⟩
      refine ⟨_, rfl, ?_⟩
      replace BK152 := bkb BK152 hb
      replace BK153 := bkb BK153 hb
      replace HB := bst hb
      (try clear hb)
      (try clear hb2)
      (try clear hk)
      (try clear hi)
      refine hK.out _ _ ⟨(blk_cell BK152.out 0).trans rfl, (blk_cell BK152.out 1).trans rfl, (blk_cell BK152.out 2).trans rfl, (blk_cell BK152.out 3).trans rfl, (blk_cell BK152.out 4).trans rfl, (blk_cell BK152.out 5).trans rfl, (blk_cell BK152.out 6).trans rfl, (blk_cell BK152.out 7).trans rfl, (blk_cell BK152.out 8).trans rfl, (blk_cell BK152.out 9).trans rfl, (blk_cell BK153.out 0).trans rfl, (blk_cell BK153.out 1).trans rfl, (blk_cell BK153.out 2).trans rfl, (blk_cell BK153.out 3).trans rfl, (blk_cell BK153.out 4).trans rfl, (blk_cell BK153.out 5).trans rfl⟩ (fun hHeld => ?_)
      clear hK K
      refine nm (some 16) ?_
      refine on HT_ 3 (some 18) (mk 15 15) fun K hK => ?_
      refine go1 Tryd.func28 #[.agg #[.bool a0_0, .int .u32 a0_1, .int .i64 a0_2, .int .u8 a0_3, .int .u8 a0_4, .bool a0_5, .int .u8 a0_6, .int .u8 a0_7, .int .i64 a0_8, .int .i64 a0_9]] ?_
      with_reducible refine (maquettelaw07_line.calls kj4 a0_0 a0_1 a0_2 a0_3 a0_4 a0_5 a0_6 a0_7 a0_8 a0_9 t156 _ A16.out (by with_reducible first | exact hInv | exact Go.Proofs.YtkbjjamaneiijaaDoor.InvT.Inv.below hInv HB.out | exact Go.Proofs.YtkbjjamaneiijaaDoor.InvT.Inv.below hInv bel | (repeat (first | exact hInv | exact Go.Proofs.YtkbjjamaneiijaaDoor.InvT.Inv.below hInv HB.out | exact Go.Proofs.YtkbjjamaneiijaaDoor.InvT.Inv.below hInv bel | apply Go.Proofs.YtkbjjamaneiijaaDoor.InvT.Inv.alloc | apply Go.Proofs.YtkbjjamaneiijaaDoor.InvT.Inv.drewN | apply Go.Proofs.YtkbjjamaneiijaaDoor.InvT.Inv.drew)))).mono ?_
      rintro e w24 ⟨rfl, hb⟩
      refine ⟨_, rfl, ?_⟩
      replace BK152 := bkb BK152 hb
      replace BK153 := bkb BK153 hb
      replace HB := bst hb
      (try clear hb)
      (try clear hb2)
      (try clear hk)
      (try clear hi)
      refine hK.out _ _ ⟨(blk_cell BK152.out 0).trans rfl, (blk_cell BK152.out 1).trans rfl, (blk_cell BK152.out 2).trans rfl, (blk_cell BK152.out 3).trans rfl, (blk_cell BK152.out 4).trans rfl, (blk_cell BK152.out 5).trans rfl, (blk_cell BK152.out 6).trans rfl, (blk_cell BK152.out 7).trans rfl, (blk_cell BK152.out 8).trans rfl, (blk_cell BK152.out 9).trans rfl, (blk_cell BK153.out 0).trans rfl, (blk_cell BK153.out 1).trans rfl, (blk_cell BK153.out 2).trans rfl, (blk_cell BK153.out 3).trans rfl, (blk_cell BK153.out 4).trans rfl, (blk_cell BK153.out 5).trans rfl⟩ (fun hHeld => ?_)
      clear hK K
      refine nm (some 18) ?_
      refine pu HT_ 4 (some 19) (mk 15 31) ?_
      refine pu HT_ 5 (some 20) (mk 15 63) ?_
      refine tk HT_ HW_ 6 (some 21) (mk 15 127) hHeld ?_
      refine tk HT_ HW_ 9 (some 24) (mk 15 639) hHeld ?_
      refine on HT_ 7 (some 22) (mk 15 767) fun K hK => ?_
      refine go1 Tryd.func29 #[.agg #[.int .u8 a1_0, .int .u8 a1_1, .int .u8 a1_2, .int .u8 a1_3, .int .u8 a1_4, .int .u8 a1_5]] ?_
      with_reducible refine (maquettelaw07_Rule_Clause.calls kj4 a1_0 a1_1 a1_2 a1_3 a1_4 a1_5 t157 t158 t159 t160 t161 t162 t163 t164 t165 t166 _ A18.out).mono ?_
      rintro e w25 ⟨rfl, hb⟩
      refine ⟨_, rfl, ?_⟩
      replace BK152 := bkb BK152 hb
      replace BK153 := bkb BK153 hb
      replace HB := bst hb
      (try clear hb)
      (try clear hb2)
      (try clear hk)
      (try clear hi)
      refine hK.out _ _ ⟨(blk_cell BK152.out 0).trans rfl, (blk_cell BK152.out 1).trans rfl, (blk_cell BK152.out 2).trans rfl, (blk_cell BK152.out 3).trans rfl, (blk_cell BK152.out 4).trans rfl, (blk_cell BK152.out 5).trans rfl, (blk_cell BK152.out 6).trans rfl, (blk_cell BK152.out 7).trans rfl, (blk_cell BK152.out 8).trans rfl, (blk_cell BK152.out 9).trans rfl, (blk_cell BK153.out 0).trans rfl, (blk_cell BK153.out 1).trans rfl, (blk_cell BK153.out 2).trans rfl, (blk_cell BK153.out 3).trans rfl, (blk_cell BK153.out 4).trans rfl, (blk_cell BK153.out 5).trans rfl⟩ (fun hHeld => ?_)
      clear hK K
      refine nm (some 22) ?_
      refine on HT_ 8 (some 23) (mk 15 1023) fun K hK => ?_
      refine go1 Tryd.func27 #[.agg #[.bool t157, .int .u32 t158, .int .i64 t159, .int .u8 t160, .int .u8 t161, .bool t162, .int .u8 t163, .int .u8 t164, .int .i64 t165, .int .i64 t166]] ?_
      with_reducible refine (text_Clause.calls kj4 t157 t158 t159 t160 t161 t162 t163 t164 t165 t166 t167 _ A19.out (by with_reducible first | exact hInv | exact Go.Proofs.YtkbjjamaneiijaaDoor.InvT.Inv.below hInv HB.out | exact Go.Proofs.YtkbjjamaneiijaaDoor.InvT.Inv.below hInv bel | (repeat (first | exact hInv | exact Go.Proofs.YtkbjjamaneiijaaDoor.InvT.Inv.below hInv HB.out | exact Go.Proofs.YtkbjjamaneiijaaDoor.InvT.Inv.below hInv bel | apply Go.Proofs.YtkbjjamaneiijaaDoor.InvT.Inv.alloc | apply Go.Proofs.YtkbjjamaneiijaaDoor.InvT.Inv.drewN | apply Go.Proofs.YtkbjjamaneiijaaDoor.InvT.Inv.drew)))).mono ?_
      rintro e w26 ⟨rfl, hb⟩
      refine ⟨_, rfl, ?_⟩
      replace BK152 := bkb BK152 hb
      replace BK153 := bkb BK153 hb
      replace HB := bst hb
      (try clear hb)
      (try clear hb2)
      (try clear hk)
      (try clear hi)
      refine hK.out _ _ ⟨(blk_cell BK152.out 0).trans rfl, (blk_cell BK152.out 1).trans rfl, (blk_cell BK152.out 2).trans rfl, (blk_cell BK152.out 3).trans rfl, (blk_cell BK152.out 4).trans rfl, (blk_cell BK152.out 5).trans rfl, (blk_cell BK152.out 6).trans rfl, (blk_cell BK152.out 7).trans rfl, (blk_cell BK152.out 8).trans rfl, (blk_cell BK152.out 9).trans rfl, (blk_cell BK153.out 0).trans rfl, (blk_cell BK153.out 1).trans rfl, (blk_cell BK153.out 2).trans rfl, (blk_cell BK153.out 3).trans rfl, (blk_cell BK153.out 4).trans rfl, (blk_cell BK153.out 5).trans rfl⟩ (fun hHeld => ?_)
      clear hK K
      refine nm (some 23) ?_
      refine on HT_ 10 (some 25) (mk 15 2047) fun K hK => ?_
      refine go1 Tryd.func29 #[.agg #[.int .u8 a1_0, .int .u8 a1_1, .int .u8 a1_2, .int .u8 a1_3, .int .u8 a1_4, .int .u8 a1_5]] ?_
      with_reducible refine (maquettelaw07_Rule_Clause.calls kj4 a1_0 a1_1 a1_2 a1_3 a1_4 a1_5 t168 t169 t170 t171 t172 t173 t174 t175 t176 t177 _ A20.out).mono ?_
      rintro e w27 ⟨rfl, hb⟩
      refine ⟨_, rfl, ?_⟩
      replace BK152 := bkb BK152 hb
      replace BK153 := bkb BK153 hb
      replace HB := bst hb
      (try clear hb)
      (try clear hb2)
      (try clear hk)
      (try clear hi)
      refine hK.out _ _ ⟨(blk_cell BK152.out 0).trans rfl, (blk_cell BK152.out 1).trans rfl, (blk_cell BK152.out 2).trans rfl, (blk_cell BK152.out 3).trans rfl, (blk_cell BK152.out 4).trans rfl, (blk_cell BK152.out 5).trans rfl, (blk_cell BK152.out 6).trans rfl, (blk_cell BK152.out 7).trans rfl, (blk_cell BK152.out 8).trans rfl, (blk_cell BK152.out 9).trans rfl, (blk_cell BK153.out 0).trans rfl, (blk_cell BK153.out 1).trans rfl, (blk_cell BK153.out 2).trans rfl, (blk_cell BK153.out 3).trans rfl, (blk_cell BK153.out 4).trans rfl, (blk_cell BK153.out 5).trans rfl⟩ (fun hHeld => ?_)
      clear hK K
      refine nm (some 25) ?_
      refine on HT_ 11 (some 26) (mk 15 4095) fun K hK => ?_
      refine go1 Tryd.func28 #[.agg #[.bool t168, .int .u32 t169, .int .i64 t170, .int .u8 t171, .int .u8 t172, .bool t173, .int .u8 t174, .int .u8 t175, .int .i64 t176, .int .i64 t177]] ?_
      with_reducible refine (maquettelaw07_line.calls kj4 t168 t169 t170 t171 t172 t173 t174 t175 t176 t177 t178 _ A21.out (by with_reducible first | exact hInv | exact Go.Proofs.YtkbjjamaneiijaaDoor.InvT.Inv.below hInv HB.out | exact Go.Proofs.YtkbjjamaneiijaaDoor.InvT.Inv.below hInv bel | (repeat (first | exact hInv | exact Go.Proofs.YtkbjjamaneiijaaDoor.InvT.Inv.below hInv HB.out | exact Go.Proofs.YtkbjjamaneiijaaDoor.InvT.Inv.below hInv bel | apply Go.Proofs.YtkbjjamaneiijaaDoor.InvT.Inv.alloc | apply Go.Proofs.YtkbjjamaneiijaaDoor.InvT.Inv.drewN | apply Go.Proofs.YtkbjjamaneiijaaDoor.InvT.Inv.drew)))).mono ?_
      rintro e w28 ⟨rfl, hb⟩
      refine ⟨_, rfl, ?_⟩
      replace BK152 := bkb BK152 hb
      replace BK153 := bkb BK153 hb
      replace HB := bst hb
      (try clear hb)
      (try clear hb2)
      (try clear hk)
      (try clear hi)
      refine hK.out _ _ ⟨(blk_cell BK152.out 0).trans rfl, (blk_cell BK152.out 1).trans rfl, (blk_cell BK152.out 2).trans rfl, (blk_cell BK152.out 3).trans rfl, (blk_cell BK152.out 4).trans rfl, (blk_cell BK152.out 5).trans rfl, (blk_cell BK152.out 6).trans rfl, (blk_cell BK152.out 7).trans rfl, (blk_cell BK152.out 8).trans rfl, (blk_cell BK152.out 9).trans rfl, (blk_cell BK153.out 0).trans rfl, (blk_cell BK153.out 1).trans rfl, (blk_cell BK153.out 2).trans rfl, (blk_cell BK153.out 3).trans rfl, (blk_cell BK153.out 4).trans rfl, (blk_cell BK153.out 5).trans rfl⟩ (fun hHeld => ?_)
      clear hK K
      refine nm (some 26) ?_
      refine pu HT_ 12 (some 27) (mk 15 8191) ?_
      refine pu HT_ 13 (some 28) (mk 15 16383) ?_
      refine pu HT_ 14 (some 4) (mk 15 32767) ?_
      refine done_ (done_of HT_.out (by kernel_rfl)) ?_
      try go_wp2
      go_ret
      exact ⟨by first | rfl | (simp [errW_none, errW_some] <;> rfl) | (simp [*, errW_none, errW_some] <;> rfl), by repeat (first | (with_reducible first | exact HB.out | apply below_alloc | apply pw_below_drewN | apply below_drew1 | refine below_set ?_ GE152.out | refine below_set ?_ GE153.out) | exact HB.out)⟩
     ·rw [if_neg c17] at H
      have c17b0 : (t155.toList == t156.toList) = false := beq_eq_false_iff_ne.mpr c17
      have c17b1 : (t155.toList != t156.toList) = true := bne_iff_ne.mpr c17
      obtain rfl := Option.some.inj H
      try go_wp2
      replace BK152 := Aside0.mk (blk_drew BK152.out)
      replace BK153 := Aside0.mk (blk_drew BK153.out)
      replace HB := Aside0.mk (below_drew1 HB.out)
      refine start_ (n := 15) (S := fun w' => w'.cell? ⟨gb152, 0, none⟩ = some (.bool a0_0) ∧ w'.cell? ⟨gb152, 1, none⟩ = some (.int .u32 a0_1) ∧ w'.cell? ⟨gb152, 2, none⟩ = some (.int .i64 a0_2) ∧ w'.cell? ⟨gb152, 3, none⟩ = some (.int .u8 a0_3) ∧ w'.cell? ⟨gb152, 4, none⟩ = some (.int .u8 a0_4) ∧ w'.cell? ⟨gb152, 5, none⟩ = some (.bool a0_5) ∧ w'.cell? ⟨gb152, 6, none⟩ = some (.int .u8 a0_6) ∧ w'.cell? ⟨gb152, 7, none⟩ = some (.int .u8 a0_7) ∧ w'.cell? ⟨gb152, 8, none⟩ = some (.int .i64 a0_8) ∧ w'.cell? ⟨gb152, 9, none⟩ = some (.int .i64 a0_9)) (ds := []) #[false, false, false, false, false, false, false, false, false, false, false, false, false, false, false] (by kernel_rfl) rfl rfl ⟨(blk_cell BK152.out 0).trans rfl, (blk_cell BK152.out 1).trans rfl, (blk_cell BK152.out 2).trans rfl, (blk_cell BK152.out 3).trans rfl, (blk_cell BK152.out 4).trans rfl, (blk_cell BK152.out 5).trans rfl, (blk_cell BK152.out 6).trans rfl, (blk_cell BK152.out 7).trans rfl, (blk_cell BK152.out 8).trans rfl, (blk_cell BK152.out 9).trans rfl⟩ (fun hHeld => ?_); refine with_tabW maquettelaw07_TextClause.tab5 maquettelaw07_TextClause.bits5 (fun HT_ HW_ => ?_)
      generalize wc.drew = w29 at BK152 BK153 HB hHeld ⊢
      refine tk HT_ HW_ 0 (some 15) (mk 15 1) hHeld ?_
      refine tk HT_ HW_ 2 (some 17) (mk 15 5) hHeld ?_
      refine on HT_ 1 (some 16) (mk 15 7) fun K hK => ?_
      refine go1 Tryd.func27 #[.agg #[.bool a0_0, .int .u32 a0_1, .int .i64 a0_2, .int .u8 a0_3, .int .u8 a0_4, .bool a0_5, .int .u8 a0_6, .int .u8 a0_7, .int .i64 a0_8, .int .i64 a0_9]] ?_
      with_reducible refine (text_Clause.calls kj4 a0_0 a0_1 a0_2 a0_3 a0_4 a0_5 a0_6 a0_7 a0_8 a0_9 t155 _ A15.out (by with_reducible first | exact hInv | exact Go.Proofs.YtkbjjamaneiijaaDoor.InvT.Inv.below hInv HB.out | exact Go.Proofs.YtkbjjamaneiijaaDoor.InvT.Inv.below hInv bel | (repeat (first | exact hInv | exact Go.Proofs.YtkbjjamaneiijaaDoor.InvT.Inv.below hInv HB.out | exact Go.Proofs.YtkbjjamaneiijaaDoor.InvT.Inv.below hInv bel | apply Go.Proofs.YtkbjjamaneiijaaDoor.InvT.Inv.alloc | apply Go.Proofs.YtkbjjamaneiijaaDoor.InvT.Inv.drewN | apply Go.Proofs.YtkbjjamaneiijaaDoor.InvT.Inv.drew)))).mono ?_
      rintro e w30 ⟨rfl, hb⟩
      refine ⟨_, rfl, ?_⟩
      replace BK152 := bkb BK152 hb
      replace BK153 := bkb BK153 hb
      replace HB := bst hb
      (try clear hb)
      (try clear hb2)
      (try clear hk)
      (try clear hi)
      refine hK.out _ _ ⟨(blk_cell BK152.out 0).trans rfl, (blk_cell BK152.out 1).trans rfl, (blk_cell BK152.out 2).trans rfl, (blk_cell BK152.out 3).trans rfl, (blk_cell BK152.out 4).trans rfl, (blk_cell BK152.out 5).trans rfl, (blk_cell BK152.out 6).trans rfl, (blk_cell BK152.out 7).trans rfl, (blk_cell BK152.out 8).trans rfl, (blk_cell BK152.out 9).trans rfl⟩ (fun hHeld => ?_)
      clear hK K
      refine nm (some 16) ?_
      refine on HT_ 3 (some 18) (mk 15 15) fun K hK => ?_
      refine go1 Tryd.func28 #[.agg #[.bool a0_0, .int .u32 a0_1, .int .i64 a0_2, .int .u8 a0_3, .int .u8 a0_4, .bool a0_5, .int .u8 a0_6, .int .u8 a0_7, .int .i64 a0_8, .int .i64 a0_9]] ?_
      with_reducible refine (maquettelaw07_line.calls kj4 a0_0 a0_1 a0_2 a0_3 a0_4 a0_5 a0_6 a0_7 a0_8 a0_9 t156 _ A16.out (by with_reducible first | exact hInv | exact Go.Proofs.YtkbjjamaneiijaaDoor.InvT.Inv.below hInv HB.out | exact Go.Proofs.YtkbjjamaneiijaaDoor.InvT.Inv.below hInv bel | (repeat (first | exact hInv | exact Go.Proofs.YtkbjjamaneiijaaDoor.InvT.Inv.below hInv HB.out | exact Go.Proofs.YtkbjjamaneiijaaDoor.InvT.Inv.below hInv bel | apply Go.Proofs.YtkbjjamaneiijaaDoor.InvT.Inv.alloc | apply Go.Proofs.YtkbjjamaneiijaaDoor.InvT.Inv.drewN | apply Go.Proofs.YtkbjjamaneiijaaDoor.InvT.Inv.drew)))).mono ?_
      rintro e w31 ⟨rfl, hb⟩
      refine ⟨_, rfl, ?_⟩
      replace BK152 := bkb BK152 hb
      replace BK153 := bkb BK153 hb
      replace HB := bst hb
      (try clear hb)
      (try clear hb2)
      (try clear hk)
      (try clear hi)
      refine hK.out _ _ ⟨(blk_cell BK152.out 0).trans rfl, (blk_cell BK152.out 1).trans rfl, (blk_cell BK152.out 2).trans rfl, (blk_cell BK152.out 3).trans rfl, (blk_cell BK152.out 4).trans rfl, (blk_cell BK152.out 5).trans rfl, (blk_cell BK152.out 6).trans rfl, (blk_cell BK152.out 7).trans rfl, (blk_cell BK152.out 8).trans rfl, (blk_cell BK152.out 9).trans rfl⟩ (fun hHeld => ?_)
      clear hK K
      refine nm (some 18) ?_
      refine pu HT_ 4 (some 19) (mk 15 31) ?_
      refine pu HT_ 5 (some 20) (mk 15 63) ?_
      refine pun HT_ 6 (some 21) (mk 15 127) ?_
      refine pun HT_ 7 (some 22) (mk 15 255) ?_
      refine pun HT_ 8 (some 23) (mk 15 511) ?_
      refine pun HT_ 9 (some 24) (mk 15 1023) ?_
      refine pun HT_ 10 (some 25) (mk 15 2047) ?_
      refine pun HT_ 11 (some 26) (mk 15 4095) ?_
      refine pun HT_ 12 (some 27) (mk 15 8191) ?_
      refine pu HT_ 13 (some 28) (mk 15 16383) ?_
      refine pu HT_ 14 (some 4) (mk 15 32767) ?_
      refine done_ (done_of HT_.out (by kernel_rfl)) ?_
      try go_wp2
      go_ret
      exact ⟨by first | rfl | (simp [errW_none, errW_some] <;> rfl) | (simp [*, errW_none, errW_some] <;> rfl), by repeat (first | (with_reducible first | exact HB.out | apply below_alloc | apply pw_below_drewN | apply below_drew1 | refine below_set ?_ GE152.out | refine below_set ?_ GE153.out) | exact HB.out)⟩
 ·replace c4 := Bool.eq_false_iff.mpr c4
  subst c4
  have H1 : (some false) = some r := by rw [if_neg (show ¬ (false = true) by decide)] at H; exact H
  clear H
  have H := H1
  clear H1
  obtain rfl := Option.some.inj H
  go_enter Tryd.func9, Tryd.ntmps9
  go_wp2_with (first | ((with_reducible refine gate_dst (N := 2) rfl ?_); refine bx 2 (cs := #[.bool a0_0, .int .u32 a0_1, .int .i64 a0_2, .int .u8 a0_3, .int .u8 a0_4, .bool a0_5, .int .u8 a0_6, .int .u8 a0_7, .int .i64 a0_8, .int .i64 a0_9]) (t := 42) (h := ?_); intro gb152 hg w32 hbox hb; have BK152 := Aside0.mk hbox; have GW152 : Aside0 (w.heap.size ≤ gb152) := bge hg; have GE152 : Aside0 (w.heap.size ≤ gb152) := bge hg; replace HB := bst hb; clear hb hbox hg) | ((with_reducible refine gate_dst (N := 3) rfl ?_); refine bx 3 (cs := #[.int .u8 a1_0, .int .u8 a1_1, .int .u8 a1_2, .int .u8 a1_3, .int .u8 a1_4, .int .u8 a1_5]) (t := 44) (h := ?_); intro gb153 hg w33 hbox hb; have BK153 := Aside0.mk hbox; have GW153 : Aside0 (w.heap.size ≤ gb153) := bge hg; have GE153 : Aside0 (w.heap.size ≤ gb153) := bge hg; have NB152_153 := bne BK152 hg; have NB153_152 := bnf BK152 hg; replace BK152 := bkb BK152 hb; replace HB := bst hb; clear hb hbox hg) | ((with_reducible refine gate_dst (N := 5) rfl ?_); refine gl (some 5) Tryd.func26 #[] ?_; (with_reducible refine (maquettelaw07_awake.calls k  false _ A3.out (by with_reducible first | exact hInv | exact Go.Proofs.YtkbjjamaneiijaaDoor.InvT.Inv.below hInv HB.out | exact Go.Proofs.YtkbjjamaneiijaaDoor.InvT.Inv.below hInv bel | (repeat (first | exact hInv | exact Go.Proofs.YtkbjjamaneiijaaDoor.InvT.Inv.below hInv HB.out | exact Go.Proofs.YtkbjjamaneiijaaDoor.InvT.Inv.below hInv bel | apply Go.Proofs.YtkbjjamaneiijaaDoor.InvT.Inv.alloc | apply Go.Proofs.YtkbjjamaneiijaaDoor.InvT.Inv.drewN | apply Go.Proofs.YtkbjjamaneiijaaDoor.InvT.Inv.drew)))).mono ?_); rintro e w34 ⟨rfl, hb⟩; refine ⟨_, rfl, ?_⟩; replace BK152 := bkb BK152 hb; replace BK153 := bkb BK153 hb; replace HB := bst hb; (try clear hb); (try clear hb2); (try clear hk); (try clear hi)))
  go_ret
  exact ⟨by first | rfl | (simp [errW_none, errW_some] <;> rfl) | (simp [*, errW_none, errW_some] <;> rfl), by repeat (first | (with_reducible first | exact HB.out | apply below_alloc | apply pw_below_drewN | apply below_drew1 | refine below_set ?_ GE152.out | refine below_set ?_ GE153.out) | exact HB.out)⟩

end Go.Proofs.YtkbjjamaneiijaaDoor.PTxt
