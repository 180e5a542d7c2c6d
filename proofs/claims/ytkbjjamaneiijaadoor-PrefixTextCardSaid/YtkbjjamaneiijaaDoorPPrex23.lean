-- Written by wip/xprint.py of this work: the printer of the kit, with contracts of this work beside it, shortened.
import Derived.Test.YtkbjjamaneiijaaDoorShort
import Derived.Test.YtkbjjamaneiijaaDoorPPrex0
import Derived.Test.YtkbjjamaneiijaaDoorJ0
import Derived.Test.YtkbjjamaneiijaaDoorPPrex3
import Derived.Test.YtkbjjamaneiijaaDoorPPrex6
import Derived.Test.YtkbjjamaneiijaaDoorPPrex10
import Derived.Test.YtkbjjamaneiijaaDoorPPrex11
import Derived.Test.YtkbjjamaneiijaaDoorPPrex16
import Derived.Test.YtkbjjamaneiijaaDoorPPrex20
import Derived.Test.YtkbjjamaneiijaaDoorPPrex22
namespace Go.Proofs.YtkbjjamaneiijaaDoor.PPre
open Go.RowKit Go.Proofs.YtkbjjamaneiijaaDoor.Short Go.Proofs.YtkbjjamaneiijaaDoorW.PrintWords Go.Proofs.YtkbjjamaneiijaaDoorW.PrintLast Go.Proofs.YtkbjjamaneiijaaDoorW.PrintMore
attribute [local go_sem] max2_int min2_int max_two min_two max_three min_three max_four min_four   -- for this text's walks alone
set_option linter.unusedVariables false
set_option linter.unusedSimpArgs false

attribute [local go_sem high] eqA24
/-! ### maquettelaw05_PrefixText: function 3 -/
mutual
def maquettelaw05_PrefixText.j0 : Nat → Int → Bool → Int → Int → Option (Bool)
 | 0, _, _, _, _ => none
 | k + 1, x1, x25, x203000, x203001 => if x25 = true then (some false) else ((maquettelaw05_Make.f k x1).bind fun bt208 => ((some (([(⟨x203000, x203001⟩ : S24), (⟨bt208.1, bt208.2⟩ : S24)] : List (S24)) : List (S24))).bind fun y210 => (maquettelaw05_PrefixText.l0 k y210 (y210.length : Int) 0)))
def maquettelaw05_PrefixText.l0 : Nat → List (S24) → Int → Int → Option (Bool)
 | 0, _, _, _ => none
 | k + 1, x29, x30, x31 => if x31 < x30 then (if 0 ≤ x31 then (if x31 < (x29.length : Int) then ((maquettelaw05_may.f k ((rd_T24 x29 x31).f0) ((rd_T24 x29 x31).f1)).bind fun t215 => (if t215 = true then ((prefix_Text.f k ((rd_T24 x29 x31).f0) ((rd_T24 x29 x31).f1)).bind fun t216 => ((prefix_Parse.f k t216).bind fun bt217 => ((prefix_Text.f k ((rd_T24 x29 x31).f0) ((rd_T24 x29 x31).f1)).bind fun t221 => ((maquettelaw05_text.f k ((rd_T24 x29 x31).f0) ((rd_T24 x29 x31).f1)).bind fun t222 => (if t221.toList = t222.toList then (if bt217.2.2 = true then (if (!(bt217.1 == ((rd_T24 x29 x31).f0)) || (!(bt217.2.1 == ((rd_T24 x29 x31).f1)))) = true then (some false) else (maquettelaw05_PrefixText.l0 k x29 x30 (wrap64 (x31 + 1)))) else (some false)) else (some false)))))) else (maquettelaw05_PrefixText.l0 k x29 x30 (wrap64 (x31 + 1))))) else (none)) else (none)) else (some true)
end
def maquettelaw05_PrefixText.f (k : Nat) (a0_0 : Int) (a0_1 : Int) (a1 : Int) : Option (Bool) := (maquettelaw05_awake.f k).bind fun t203 => (if t203 = true then ((prefix_May.f a0_0 a0_1).bind fun t204 => ((maquettelaw05_may.f k a0_0 a0_1).bind fun t205 => (if (t204 != t205) = true then (maquettelaw05_PrefixText.j0 k a1 true a0_0 a0_1) else ((maquettelaw05_may.f k a0_0 a0_1).bind fun t206 => (if t206 = true then (maquettelaw05_PrefixText.j0 k a1 false a0_0 a0_1) else ((prefix_Text.f k a0_0 a0_1).bind fun t207 => (maquettelaw05_PrefixText.j0 k a1 (t207.toList != ([] : List UInt8)) a0_0 a0_1))))))) else (some false))
theorem maquettelaw05_PrefixText.mono_l : ∀ k, (∀ y0 y1 y2 y3, LeO (maquettelaw05_PrefixText.j0 k y0 y1 y2 y3) (maquettelaw05_PrefixText.j0 (k + 1) y0 y1 y2 y3)) ∧ (∀ y0 y1 y2, LeO (maquettelaw05_PrefixText.l0 k y0 y1 y2) (maquettelaw05_PrefixText.l0 (k + 1) y0 y1 y2))
 | 0 => ⟨fun _ _ _ _ r h => by simp [maquettelaw05_PrefixText.j0] at h, fun _ _ _ r h => by simp [maquettelaw05_PrefixText.l0] at h⟩
 | k + 1 => by
  obtain ⟨ih0, ih1⟩ := maquettelaw05_PrefixText.mono_l k
  refine ⟨?_, ?_⟩
  ·intro y0 y1 y2 y3
   unfold maquettelaw05_PrefixText.j0
   repeat' first
   | (with_reducible exact ih0 _ _ _ _)
   | (with_reducible exact ih1 _ _ _)
   | (with_reducible exact maquettelaw05_Make.mono _ _)
   | (with_reducible exact maquettelaw05_awake.mono _)
   | (with_reducible exact maquettelaw05_may.mono _ _ _)
   | (with_reducible exact maquettelaw05_text.mono _ _ _)
   | (with_reducible exact prefix_Parse.mono _ _)
   | (with_reducible exact prefix_Text.mono _ _ _)
   | (with_reducible exact LeO.refl _)
   | (with_reducible exact LeO.none _)
   | (with_reducible refine LeO.ite ?_ ?_)
   | (with_reducible refine LeO.bind ?_ (fun _ => ?_))
   | exact ih0 _ _ _ _
   | exact ih1 _ _ _
   | exact maquettelaw05_Make.mono _ _
   | exact maquettelaw05_awake.mono _
   | exact maquettelaw05_may.mono _ _ _
   | exact maquettelaw05_text.mono _ _ _
   | exact prefix_Parse.mono _ _
   | exact prefix_Text.mono _ _ _
   | exact LeO.none _
   | refine LeO.ite ?_ ?_
   | refine LeO.bind ?_ (fun _ => ?_)
  ·intro y0 y1 y2
   unfold maquettelaw05_PrefixText.l0
   repeat' first
   | (with_reducible exact ih0 _ _ _ _)
   | (with_reducible exact ih1 _ _ _)
   | (with_reducible exact maquettelaw05_Make.mono _ _)
   | (with_reducible exact maquettelaw05_awake.mono _)
   | (with_reducible exact maquettelaw05_may.mono _ _ _)
   | (with_reducible exact maquettelaw05_text.mono _ _ _)
   | (with_reducible exact prefix_Parse.mono _ _)
   | (with_reducible exact prefix_Text.mono _ _ _)
   | (with_reducible exact LeO.refl _)
   | (with_reducible exact LeO.none _)
   | (with_reducible refine LeO.ite ?_ ?_)
   | (with_reducible refine LeO.bind ?_ (fun _ => ?_))
   | exact ih0 _ _ _ _
   | exact ih1 _ _ _
   | exact maquettelaw05_Make.mono _ _
   | exact maquettelaw05_awake.mono _
   | exact maquettelaw05_may.mono _ _ _
   | exact maquettelaw05_text.mono _ _ _
   | exact prefix_Parse.mono _ _
   | exact prefix_Text.mono _ _ _
   | exact LeO.none _
   | refine LeO.ite ?_ ?_
   | refine LeO.bind ?_ (fun _ => ?_)
theorem maquettelaw05_PrefixText.mono : ∀ a0 a1 a2 k, LeO (maquettelaw05_PrefixText.f k a0 a1 a2) (maquettelaw05_PrefixText.f (k + 1) a0 a1 a2) := by
 intro a0 a1 a2 k
 obtain ⟨ih0, ih1⟩ := maquettelaw05_PrefixText.mono_l k
 unfold maquettelaw05_PrefixText.f
 repeat' first
   | (with_reducible exact ih0 _ _ _ _)
   | (with_reducible exact ih1 _ _ _)
   | (with_reducible exact maquettelaw05_Make.mono _ _)
   | (with_reducible exact maquettelaw05_awake.mono _)
   | (with_reducible exact maquettelaw05_may.mono _ _ _)
   | (with_reducible exact maquettelaw05_text.mono _ _ _)
   | (with_reducible exact prefix_Parse.mono _ _)
   | (with_reducible exact prefix_Text.mono _ _ _)
   | (with_reducible exact LeO.refl _)
   | (with_reducible exact LeO.none _)
   | (with_reducible refine LeO.ite ?_ ?_)
   | (with_reducible refine LeO.bind ?_ (fun _ => ?_))
   | exact ih0 _ _ _ _
   | exact ih1 _ _ _
   | exact maquettelaw05_Make.mono _ _
   | exact maquettelaw05_awake.mono _
   | exact maquettelaw05_may.mono _ _ _
   | exact maquettelaw05_text.mono _ _ _
   | exact prefix_Parse.mono _ _
   | exact prefix_Text.mono _ _ _
   | exact LeO.none _
   | refine LeO.ite ?_ ?_
   | refine LeO.bind ?_ (fun _ => ?_)
def maquettelaw05_PrefixText.T3 : Bool × List (List Nat × List Nat) := (true, [([], []), ([0], [0]), ([], []), ([2, 1], [2]), ([1, 3], [1, 3]), ([4, 3], [4]), ([5], [5]), ([6, 5, 5], [5, 6]), ([7, 5], [5, 7]), ([8, 7, 5], [5, 8]), ([9], [9]), ([10, 9, 9], [9, 10]), ([11, 9], [9, 11]), ([9, 12, 5], [5, 9, 12]), ([5, 13], [5, 13])])
def maquettelaw05_PrefixText.B3 : List Nat := [0, 1, 0, 7, 15, 31, 63, 127, 255, 511, 1023, 2047, 4095, 8191, 16383]
theorem maquettelaw05_PrefixText.tab3 : rtab .any (opsOf Tryd.f3 3) = maquettelaw05_PrefixText.T3 := by kernel_rfl
theorem maquettelaw05_PrefixText.bits3 : waitsOk maquettelaw05_PrefixText.T3.2 maquettelaw05_PrefixText.B3 = true := by kernel_rfl
def maquettelaw05_PrefixText.T10 : Bool × List (List Nat × List Nat) := (true, [([], []), ([0], [0]), ([], []), ([2, 1], [2]), ([1, 3], [1, 3]), ([4, 3], [4]), ([5], [5]), ([6, 5], [5, 6]), ([5, 7], [5, 7]), ([8, 5], [8]), ([9], [9]), ([9], [9]), ([10, 11, 9], [9, 10, 11]), ([9, 12], [9, 12])])
def maquettelaw05_PrefixText.B10 : List Nat := [0, 1, 0, 7, 15, 31, 63, 127, 255, 511, 1023, 1023, 4095, 8191]
theorem maquettelaw05_PrefixText.tab10 : rtab .any (opsOf Tryd.f3 10) = maquettelaw05_PrefixText.T10 := by kernel_rfl
theorem maquettelaw05_PrefixText.bits10 : waitsOk maquettelaw05_PrefixText.T10.2 maquettelaw05_PrefixText.B10 = true := by kernel_rfl
set_option maxHeartbeats 8000000 in
set_option maxRecDepth 100000 in
theorem maquettelaw05_PrefixText.calls (k : Nat) (a0_0 : Int) (a0_1 : Int) (a1 : Int) (r : Bool) (w : World) (h : maquettelaw05_PrefixText.f k a0_0 a0_1 a1 = some r) (hInv : Go.Proofs.YtkbjjamaneiijaaDoor.Inv.Inv w) :
  Calls Tryd.prog 3 #[.agg #[.int .u32 a0_0, .int .i64 a0_1], .int .u8 a1] w fun e w' => e = .returned (.bool r) ∧ Below w.heap.size w w' := by
 have hu24 := Tryd.underlying24
 have HB := Aside0.mk (Below.refl w.heap.size w)
 have H : ((maquettelaw05_awake.f k).bind fun t203 => (if t203 = true then ((prefix_May.f a0_0 a0_1).bind fun t204 => ((maquettelaw05_may.f k a0_0 a0_1).bind fun t205 => (if (t204 != t205) = true then (maquettelaw05_PrefixText.j0 k a1 true a0_0 a0_1) else ((maquettelaw05_may.f k a0_0 a0_1).bind fun t206 => (if t206 = true then (maquettelaw05_PrefixText.j0 k a1 false a0_0 a0_1) else ((prefix_Text.f k a0_0 a0_1).bind fun t207 => (maquettelaw05_PrefixText.j0 k a1 (t207.toList != ([] : List UInt8)) a0_0 a0_1))))))) else (some false))) = some r := h
 clear h
 replace H := Option.bind_eq_some_iff.mp H
 obtain ⟨t203, A30, H⟩ := H
 replace H : (if t203 = true then ((prefix_May.f a0_0 a0_1).bind fun t204 => ((maquettelaw05_may.f k a0_0 a0_1).bind fun t205 => (if (t204 != t205) = true then (maquettelaw05_PrefixText.j0 k a1 true a0_0 a0_1) else ((maquettelaw05_may.f k a0_0 a0_1).bind fun t206 => (if t206 = true then (maquettelaw05_PrefixText.j0 k a1 false a0_0 a0_1) else ((prefix_Text.f k a0_0 a0_1).bind fun t207 => (maquettelaw05_PrefixText.j0 k a1 (t207.toList != ([] : List UInt8)) a0_0 a0_1))))))) else (some false)) = some r := H
 have A3 := Aside0.mk A30
 clear A30
 by_cases c4 : t203 = true
 ·subst c4
  have H1 : ((prefix_May.f a0_0 a0_1).bind fun t204 => ((maquettelaw05_may.f k a0_0 a0_1).bind fun t205 => (if (t204 != t205) = true then (maquettelaw05_PrefixText.j0 k a1 true a0_0 a0_1) else ((maquettelaw05_may.f k a0_0 a0_1).bind fun t206 => (if t206 = true then (maquettelaw05_PrefixText.j0 k a1 false a0_0 a0_1) else ((prefix_Text.f k a0_0 a0_1).bind fun t207 => (maquettelaw05_PrefixText.j0 k a1 (t207.toList != ([] : List UInt8)) a0_0 a0_1))))))) = some r := by rw [if_pos rfl] at H; exact H
  clear H
  have H := H1
  clear H1
  have HC5 := Aside0.mk H
  clear H
  go_enter Tryd.func3, Tryd.ntmps3
  go_upto_region 3 with (first | ((with_reducible refine gate_dst (N := 2) rfl ?_); refine bx 2 (cs := #[.int .u32 a0_0, .int .i64 a0_1]) (t := 24) (h := ?_); intro gb202 hg w6 hbox hb; have BK202 := Aside0.mk hbox; have GW202 : Aside0 (w.heap.size ≤ gb202) := bge hg; have GE202 : Aside0 (w.heap.size ≤ gb202) := bge hg; replace HB := bst hb; clear hb hbox hg) | ((with_reducible refine gate_dst (N := 9) rfl ?_); refine gl (some 9) Tryd.func15 #[] ?_; (with_reducible refine (maquettelaw05_awake.calls k  true _ A3.out (by with_reducible first | exact hInv | exact Go.Proofs.YtkbjjamaneiijaaDoor.Inv.Inv.below hInv HB.out | exact Go.Proofs.YtkbjjamaneiijaaDoor.Inv.Inv.below hInv bel | (repeat (first | exact hInv | exact Go.Proofs.YtkbjjamaneiijaaDoor.Inv.Inv.below hInv HB.out | exact Go.Proofs.YtkbjjamaneiijaaDoor.Inv.Inv.below hInv bel | apply Go.Proofs.YtkbjjamaneiijaaDoor.Inv.Inv.alloc | apply Go.Proofs.YtkbjjamaneiijaaDoor.Inv.Inv.drewN | apply Go.Proofs.YtkbjjamaneiijaaDoor.Inv.Inv.drew)))).mono ?_); rintro e w7 ⟨rfl, hb⟩; refine ⟨_, rfl, ?_⟩; replace BK202 := bkb BK202 hb; replace HB := bst hb; (try clear hb); (try clear hb2); (try clear hk); (try clear hi)))
  (try simp only [Act.put, List.setIfInBounds_toArray, List.set_cons_zero, List.set_cons_succ])
  go_cut [25] (fun v25 wc => ∃ (kq : Nat) (x25_4 : Bool), v25 = .bool x25_4 ∧ Aside0 (maquettelaw05_PrefixText.j0 kq a1 x25_4 a0_0 a0_1 = some r) ∧ Aside0 (kq ≤ k) ∧ Aside0 (wc.heap[gb202]? = some (.cells #[.int .u32 a0_0, .int .i64 a0_1] 24 (0, 0))) ∧ Aside0 (Below w.heap.size w wc))
  case first =>
   have H := HC5.out
   clear HC5
   replace H := Option.bind_eq_some_iff.mp H
   obtain ⟨t204, A80, H⟩ := H
   replace H : ((maquettelaw05_may.f k a0_0 a0_1).bind fun t205 => (if (t204 != t205) = true then (maquettelaw05_PrefixText.j0 k a1 true a0_0 a0_1) else ((maquettelaw05_may.f k a0_0 a0_1).bind fun t206 => (if t206 = true then (maquettelaw05_PrefixText.j0 k a1 false a0_0 a0_1) else ((prefix_Text.f k a0_0 a0_1).bind fun t207 => (maquettelaw05_PrefixText.j0 k a1 (t207.toList != ([] : List UInt8)) a0_0 a0_1)))))) = some r := H
   have A8 := Aside0.mk A80
   clear A80
   replace H := Option.bind_eq_some_iff.mp H
   obtain ⟨t205, A90, H⟩ := H
   replace H : (if (t204 != t205) = true then (maquettelaw05_PrefixText.j0 k a1 true a0_0 a0_1) else ((maquettelaw05_may.f k a0_0 a0_1).bind fun t206 => (if t206 = true then (maquettelaw05_PrefixText.j0 k a1 false a0_0 a0_1) else ((prefix_Text.f k a0_0 a0_1).bind fun t207 => (maquettelaw05_PrefixText.j0 k a1 (t207.toList != ([] : List UInt8)) a0_0 a0_1))))) = some r := H
   have A9 := Aside0.mk A90
   clear A90
   by_cases c10 : (t204 != t205) = true
   ·rw [if_pos c10] at H
    have c10b0 : (t204 != t205) = true := c10
    (try (have c10b1 : decide (t204 = t205) = false := by simpa using c10))
    (try (have c10b2 : (t204 == t205) = false := by simpa using c10))
    (try (have c10b3 : ¬ (t204 = t205) := by simpa using c10))
    clear c10
    (first | rw [c10b0] | (simp only [i64_w, i32_w]; rw [c10b0]) | skip)
    have H' := Aside0.mk H
    clear H
    try go_wp2
    replace BK202 := Aside0.mk (blk_drew BK202.out)
    replace HB := Aside0.mk (below_drew1 HB.out)
    refine start_ (n := 15) (S := fun w' => w'.cell? ⟨gb202, 0, none⟩ = some (.int .u32 a0_0) ∧ w'.cell? ⟨gb202, 1, none⟩ = some (.int .i64 a0_1)) (ds := []) #[false, false, false, false, false, false, false, false, false, false, false, false, false, false, false] (by kernel_rfl) rfl rfl ⟨(blk_cell BK202.out 0).trans rfl, (blk_cell BK202.out 1).trans rfl⟩ (fun hHeld => ?_); refine with_tabW maquettelaw05_PrefixText.tab3 maquettelaw05_PrefixText.bits3 (fun HT_ HW_ => ?_)
    generalize w7.drew = w11 at BK202 HB hHeld ⊢
    refine tk HT_ HW_ 0 (some 11) (mk 15 1) hHeld ?_
    refine tk HT_ HW_ 2 (some 13) (mk 15 5) hHeld ?_
    refine on HT_ 1 (some 12) (mk 15 7) fun K hK => ?_
    refine go1 Tryd.func16 #[.agg #[.int .u32 a0_0, .int .i64 a0_1]] ?_
    with_reducible refine (prefix_May.calls a0_0 a0_1 t204 _ A8.out).mono ?_
    rintro e w12 ⟨rfl, hb⟩
    refine ⟨_, rfl, ?_⟩
    replace BK202 := bkb BK202 hb
    replace HB := bst hb
    (try clear hb)
    (try clear hb2)
    (try clear hk)
    (try clear hi)
    refine hK.out _ _ ⟨(blk_cell BK202.out 0).trans rfl, (blk_cell BK202.out 1).trans rfl⟩ (fun hHeld => ?_)
    clear hK K
    refine nm (some 12) ?_
    refine on HT_ 3 (some 14) (mk 15 15) fun K hK => ?_
    refine go1 Tryd.func17 #[.agg #[.int .u32 a0_0, .int .i64 a0_1]] ?_
    with_reducible refine (maquettelaw05_may.calls k a0_0 a0_1 t205 _ A9.out).mono ?_
    rintro e w13 ⟨rfl, hb⟩
    refine ⟨_, rfl, ?_⟩
    replace BK202 := bkb BK202 hb
    replace HB := bst hb
    (try clear hb)
    (try clear hb2)
    (try clear hk)
    (try clear hi)
    refine hK.out _ _ ⟨(blk_cell BK202.out 0).trans rfl, (blk_cell BK202.out 1).trans rfl⟩ (fun hHeld => ?_)
    clear hK K
    refine nm (some 14) ?_
    refine pu HT_ 4 (some 15) (mk 15 31) ?_
    refine pu HT_ 5 (some 16) (mk 15 63) ?_
    refine pun HT_ 6 (some 17) (mk 15 127) ?_
    refine pun HT_ 7 (some 18) (mk 15 255) ?_
    refine pun HT_ 8 (some 19) (mk 15 511) ?_
    refine pun HT_ 9 (some 20) (mk 15 1023) ?_
    refine pun HT_ 10 (some 21) (mk 15 2047) ?_
    refine pun HT_ 11 (some 22) (mk 15 4095) ?_
    refine pun HT_ 12 (some 23) (mk 15 8191) ?_
    refine pun HT_ 13 (some 24) (mk 15 16383) ?_
    refine pu HT_ 14 (some 25) (mk 15 32767) ?_
    refine done_ (done_of HT_.out (by kernel_rfl)) ?_
    try go_wp2
    go_meet
    case rel => exact ⟨_, (true), (by first | rfl | (simp; done) | (simp [*]; done)), H', ⟨by first | omega | exact Nat.le_refl _⟩, ⟨bkq BK202⟩, ⟨by repeat (first | (with_reducible first | exact HB.out | apply below_alloc | apply pw_below_drewN | apply below_drew1 | refine below_set ?_ GE202.out) | exact HB.out)⟩⟩
   ·rw [if_neg c10] at H
    have c10b0 : (t204 != t205) = false := by simpa using c10
    (try (have c10b1 : decide (t204 = t205) = true := by simpa using c10))
    (try (have c10b2 : (t204 == t205) = true := by simpa using c10))
    clear c10
    (first | rw [c10b0] | (simp only [i64_w, i32_w]; rw [c10b0]) | skip)
    replace H := Option.bind_eq_some_iff.mp H
    obtain ⟨t206, A140, H⟩ := H
    replace H : (if t206 = true then (maquettelaw05_PrefixText.j0 k a1 false a0_0 a0_1) else ((prefix_Text.f k a0_0 a0_1).bind fun t207 => (maquettelaw05_PrefixText.j0 k a1 (t207.toList != ([] : List UInt8)) a0_0 a0_1))) = some r := H
    have A14 := Aside0.mk A140
    clear A140
    by_cases c15 : t206 = true
    ·subst c15
     have H1 : (maquettelaw05_PrefixText.j0 k a1 false a0_0 a0_1) = some r := by rw [if_pos rfl] at H; exact H
     clear H
     have H := H1
     clear H1
     have H' := Aside0.mk H
     clear H
     try go_wp2
     replace BK202 := Aside0.mk (blk_drew BK202.out)
     replace HB := Aside0.mk (below_drew1 HB.out)
     refine start_ (n := 15) (S := fun w' => w'.cell? ⟨gb202, 0, none⟩ = some (.int .u32 a0_0) ∧ w'.cell? ⟨gb202, 1, none⟩ = some (.int .i64 a0_1)) (ds := []) #[false, false, false, false, false, false, false, false, false, false, false, false, false, false, false] (by kernel_rfl) rfl rfl ⟨(blk_cell BK202.out 0).trans rfl, (blk_cell BK202.out 1).trans rfl⟩ (fun hHeld => ?_); refine with_tabW maquettelaw05_PrefixText.tab3 maquettelaw05_PrefixText.bits3 (fun HT_ HW_ => ?_)
     generalize w7.drew = w16 at BK202 HB hHeld ⊢
     refine tk HT_ HW_ 0 (some 11) (mk 15 1) hHeld ?_
     refine tk HT_ HW_ 2 (some 13) (mk 15 5) hHeld ?_
     refine on HT_ 1 (some 12) (mk 15 7) fun K hK => ?_
     refine go1 Tryd.func16 #[.agg #[.int .u32 a0_0, .int .i64 a0_1]] ?_
     with_reducible refine (prefix_May.calls a0_0 a0_1 t204 _ A8.out).mono ?_
     rintro e w17 ⟨rfl, hb⟩
     refine ⟨_, rfl, ?_⟩
     replace BK202 := bkb BK202 hb
     replace HB := bst hb
     (try clear hb)
     (try clear hb2)
     (try clear hk)
     (try clear hi)
     refine hK.out _ _ ⟨(blk_cell BK202.out 0).trans rfl, (blk_cell BK202.out 1).trans rfl⟩ (fun hHeld => ?_)
     clear hK K
     refine nm (some 12) ?_
     refine on HT_ 3 (some 14) (mk 15 15) fun K hK => ?_
     refine go1 Tryd.func17 #[.agg #[.int .u32 a0_0, .int .i64 a0_1]] ?_
     with_reducible refine (maquettelaw05_may.calls k a0_0 a0_1 t205 _ A9.out).mono ?_
     rintro e w18 ⟨rfl, hb⟩
     refine ⟨_, rfl, ?_⟩
     replace BK202 := bkb BK202 hb
     replace HB := bst hb
     (try clear hb)
     (try clear hb2)
     (try clear hk)
     (try clear hi)
     refine hK.out _ _ ⟨(blk_cell BK202.out 0).trans rfl, (blk_cell BK202.out 1).trans rfl⟩ (fun hHeld => ?_)
     clear hK K
     refine nm (some 14) ?_
     refine pu HT_ 4 (some 15) (mk 15 31) ?_
     refine pu HT_ 5 (some 16) (mk 15 63) ?_
     refine tk HT_ HW_ 6 (some 17) (mk 15 127) hHeld ?_
     refine on HT_ 7 (some 18) (mk 15 255) fun K hK => ?_
     refine go1 Tryd.func17 #[.agg #[.int .u32 a0_0, .int .i64 a0_1]] ?_
     with_reducible refine (maquettelaw05_may.calls k a0_0 a0_1 true _ A14.out).mono ?_
     rintro e w19 ⟨rfl, hb⟩
     refine ⟨_, rfl, ?_⟩
     replace BK202 := bkb BK202 hb
     replace HB := bst hb
     (try clear hb)
     (try clear hb2)
     (try clear hk)
     (try clear hi)
     refine hK.out _ _ ⟨(blk_cell BK202.out 0).trans rfl, (blk_cell BK202.out 1).trans rfl⟩ (fun hHeld => ?_)
     clear hK K
     refine nm (some 18) ?_
     refine pu HT_ 8 (some 19) (mk 15 511) ?_
     refine pu HT_ 9 (some 20) (mk 15 1023) ?_
     refine pun HT_ 10 (some 21) (mk 15 2047) ?_
     refine pun HT_ 11 (some 22) (mk 15 4095) ?_
     refine pun HT_ 12 (some 23) (mk 15 8191) ?_
     refine pu HT_ 13 (some 24) (mk 15 16383) ?_
     refine pu HT_ 14 (some 25) (mk 15 32767) ?_
     refine done_ (done_of HT_.out (by kernel_rfl)) ?_
     try go_wp2
     go_meet
     case rel => exact ⟨_, (false), (by first | rfl | (simp; done) | (simp [*]; done)), H', ⟨by first | omega | exact Nat.le_refl _⟩, ⟨bkq BK202⟩, ⟨by repeat (first | (with_reducible first | exact HB.out | apply below_alloc | apply pw_below_drewN | apply below_drew1 | refine below_set ?_ GE202.out) | exact HB.out)⟩⟩
    ·replace c15 := Bool.eq_false_iff.mpr c15
     subst c15
     have H1 : ((prefix_Text.f k a0_0 a0_1).bind fun t207 => (maquettelaw05_PrefixText.j0 k a1 (t207.toList != ([] : List UInt8)) a0_0 a0_1)) = some r := by rw [if_neg (show ¬ (false = true) by decide)] at H; exact H
     clear H
     have H := H1
     clear H1
     replace H := Option.bind_eq_some_iff.mp H
     obtain ⟨t207, A200, H⟩ := H
     replace H : (maquettelaw05_PrefixText.j0 k a1 (t207.toList != ([] : List UInt8)) a0_0 a0_1) = some r := H
     have A20 := Aside0.mk A200
     clear A200
     have H' := Aside0.mk H
     clear H
     try go_wp2
     replace BK202 := Aside0.mk (blk_drew BK202.out)
     replace HB := Aside0.mk (below_drew1 HB.out)
     refine start_ (n := 15) (S := fun w' => w'.cell? ⟨gb202, 0, none⟩ = some (.int .u32 a0_0) ∧ w'.cell? ⟨gb202, 1, none⟩ = some (.int .i64 a0_1)) (ds := []) #[false, false, false, false, false, false, false, false, false, false, false, false, false, false, false] (by kernel_rfl) rfl rfl ⟨(blk_cell BK202.out 0).trans rfl, (blk_cell BK202.out 1).trans rfl⟩ (fun hHeld => ?_); refine with_tabW maquettelaw05_PrefixText.tab3 maquettelaw05_PrefixText.bits3 (fun HT_ HW_ => ?_)
     generalize w7.drew = w21 at BK202 HB hHeld ⊢
     refine tk HT_ HW_ 0 (some 11) (mk 15 1) hHeld ?_
     refine tk HT_ HW_ 2 (some 13) (mk 15 5) hHeld ?_
     refine on HT_ 1 (some 12) (mk 15 7) fun K hK => ?_
     refine go1 Tryd.func16 #[.agg #[.int .u32 a0_0, .int .i64 a0_1]] ?_
     with_reducible refine (prefix_May.calls a0_0 a0_1 t204 _ A8.out).mono ?_
     rintro e w22 ⟨rfl, hb⟩
     refine ⟨_, rfl, ?_⟩
     replace BK202 := bkb BK202 hb
     replace HB := bst hb
     (try clear hb)
     (try clear hb2)
     (try clear hk)
     (try clear hi)
     refine hK.out _ _ ⟨(blk_cell BK202.out 0).trans rfl, (blk_cell BK202.out 1).trans rfl⟩ (fun hHeld => ?_)
     clear hK K
     refine nm (some 12) ?_
     refine on HT_ 3 (some 14) (mk 15 15) fun K hK => ?_
     refine go1 Tryd.func17 #[.agg #[.int .u32 a0_0, .int .i64 a0_1]] ?_
     with_reducible refine (maquettelaw05_may.calls k a0_0 a0_1 t205 _ A9.out).mono ?_
     rintro e w23 ⟨rfl, hb⟩
     refine ⟨_, rfl, ?_⟩
     replace BK202 := bkb BK202 hb
     replace HB := bst hb
     (try clear hb)
     (try clear hb2)
     (try clear hk)
     (try clear hi)
     refine hK.out _ _ ⟨(blk_cell BK202.out 0).trans rfl, (blk_cell BK202.out 1).trans rfl⟩ (fun hHeld => ?_)
     clear hK K
     refine nm (some 14) ?_
     refine pu HT_ 4 (some 15) (mk 15 31) ?_
     refine pu HT_ 5 (some 16) (mk 15 63) ?_
     refine tk HT_ HW_ 6 (some 17) (mk 15 127) hHeld ?_
     refine on HT_ 7 (some 18) (mk 15 255) fun K hK => ?_
     refine go1 Tryd.func17 #[.agg #[.int .u32 a0_0, .int .i64 a0_1]] ?_
     with_reducible refine (maquettelaw05_may.calls k a0_0 a0_1 false _ A14.out).mono ?_
     rintro e w24 ⟨rfl, hb⟩
     refine ⟨_, rfl, ?_⟩
     replace BK202 := bkb BK202 hb
     replace HB := bst hb
     (try clear hb)
     (try clear hb2)
     (try clear hk)
     (try clear hi)
     refine hK.out _ _ ⟨(blk_cell BK202.out 0).trans rfl, (blk_cell BK202.out 1).trans rfl⟩ (fun hHeld => ?_)
     clear hK K
     refine nm (some 18) ?_
     refine pu HT_ 8 (some 19) (mk 15 511) ?_
     refine pu HT_ 9 (some 20) (mk 15 1023) ?_
     refine tk HT_ HW_ 10 (some 21) (mk 15 2047) hHeld ?_
     refine on HT_ 11 (some 22) (mk 15 4095) fun K hK => ?_
     refine go1 Tryd.func18 #[.agg #[.int .u32 a0_0, .int .i64 a0_1]] ?_
     with_reducible refine (prefix_Text.calls k a0_0 a0_1 t207 _ A20.out (by with_reducible first | exact hInv | exact Go.Proofs.YtkbjjamaneiijaaDoor.Inv.Inv.below hInv HB.out | exact Go.Proofs.YtkbjjamaneiijaaDoor.Inv.Inv.below hInv bel | (repeat (first | exact hInv | exact Go.Proofs.YtkbjjamaneiijaaDoor.Inv.Inv.below hInv HB.out | exact Go.Proofs.YtkbjjamaneiijaaDoor.Inv.Inv.below hInv bel | apply Go.Proofs.YtkbjjamaneiijaaDoor.Inv.Inv.alloc | apply Go.Proofs.YtkbjjamaneiijaaDoor.Inv.Inv.drewN | apply Go.Proofs.YtkbjjamaneiijaaDoor.Inv.Inv.drew)))).mono ?_
     rintro e w25 ⟨rfl, hb⟩
     refine ⟨_, rfl, ?_⟩
     replace BK202 := bkb BK202 hb
     replace HB := bst hb
     (try clear hb)
     (try clear hb2)
     (try clear hk)
     (try clear hi)
     refine hK.out _ _ ⟨(blk_cell BK202.out 0).trans rfl, (blk_cell BK202.out 1).trans rfl⟩ (fun hHeld => ?_)
     clear hK K
     refine nm (some 22) ?_
     refine pu HT_ 12 (some 23) (mk 15 8191) ?_
     refine pu HT_ 13 (some 24) (mk 15 16383) ?_
     refine pu HT_ 14 (some 25) (mk 15 32767) ?_
     refine done_ (done_of HT_.out (by kernel_rfl)) ?_
     try go_wp2
     go_meet
     case rel => exact ⟨_, ((t207.toList != ([] : List UInt8))), (by first | rfl | (simp; done) | (simp [*]; done) | (simp; generalize t207.toList = l_; cases l_ <;> rfl)), H', ⟨by first | omega | exact Nat.le_refl _⟩, ⟨bkq BK202⟩, ⟨by repeat (first | (with_reducible first | exact HB.out | apply below_alloc | apply pw_below_drewN | apply below_drew1 | refine below_set ?_ GE202.out) | exact HB.out)⟩⟩
  case rest =>
   clear HC5
   try clear c1
   try clear p2
   try clear c3
   try clear c4
   try clear c10
   try clear c10b0
   try clear c10b1
   try clear c10b2
   try clear c15
   try clear c16
   try clear c17
   try clear c18
   obtain ⟨kq, x25_4, rfl, HA, HJ4, BK202, HB⟩ := hcut
   cases kq with
   | zero => exact absurd HA.out (by simp [maquettelaw05_PrefixText.j0])
   | succ kj4 =>
    have H := HA.out
    clear HA
    simp only [maquettelaw05_PrefixText.j0] at H
    by_cases c26 : x25_4 = true
    ·subst c26
     have H1 : (some false) = some r := by rw [if_pos rfl] at H; exact H
     clear H
     have H := H1
     clear H1
     obtain rfl := Option.some.inj H
     go_wp2
     go_ret
     exact ⟨by first | rfl | (simp [errW_none, errW_some] <;> rfl) | (simp [*, errW_none, errW_some] <;> rfl), by repeat (first | (with_reducible first | exact HB.out | apply below_alloc | apply pw_below_drewN | apply below_drew1 | refine below_set ?_ GE202.out) | exact HB.out)⟩
    ·replace c26 := Bool.eq_false_iff.mpr c26
     subst c26
     have H1 : ((maquettelaw05_Make.f kj4 a1).bind fun bt208 => ((some (([(⟨a0_0, a0_1⟩ : S24), (⟨bt208.1, bt208.2⟩ : S24)] : List (S24)) : List (S24))).bind fun y210 => (maquettelaw05_PrefixText.l0 kj4 y210 (y210.length : Int) 0))) = some r := by rw [if_neg (show ¬ (false = true) by decide)] at H; exact H
     clear H
     have H := H1
     clear H1
     replace H := Option.bind_eq_some_iff.mp H
     obtain ⟨⟨t208, t209⟩, A270, H⟩ := H
     replace H : ((some (([(⟨a0_0, a0_1⟩ : S24), (⟨t208, t209⟩ : S24)] : List (S24)) : List (S24))).bind fun y210 => (maquettelaw05_PrefixText.l0 kj4 y210 (y210.length : Int) 0)) = some r := H
     have A27 := Aside0.mk A270
     clear A270
     obtain ⟨y210, hy210⟩ : ∃ y_ : List (S24), y_ = (([(⟨a0_0, a0_1⟩ : S24), (⟨t208, t209⟩ : S24)] : List (S24))) := ⟨_, rfl⟩
     replace H : (maquettelaw05_PrefixText.l0 kj4 y210 (y210.length : Int) 0) = some r := by first | (rw [hy210]; with_reducible exact H) | (have H2_ := (Option.bind_some _ _).symm.trans H; rw [hy210]; with_reducible exact H2_) | (have H2_ := (Option.bind_some _ _).symm.trans H; with_reducible exact H2_) | with_reducible exact H | (rw [hy210]; exact H) | exact H
     have Ny210 := Aside0.mk hy210
     clear hy210
     have H' := Aside0.mk H
     clear H
     try go_wp2
     replace BK202 := Aside0.mk (blk_drew BK202.out)
     replace HB := Aside0.mk (below_drew1 HB.out)
     refine start_ (n := 6) (S := fun w' => w'.cell? ⟨gb202, 0, none⟩ = some (.int .u32 a0_0) ∧ w'.cell? ⟨gb202, 1, none⟩ = some (.int .i64 a0_1)) (ds := []) #[false, false, false, false, false, false] (by kernel_rfl) rfl rfl ⟨(blk_cell BK202.out 0).trans rfl, (blk_cell BK202.out 1).trans rfl⟩ (fun hHeld => ?_)
     generalize wc.drew = w28 at BK202 HB hHeld ⊢
     refine pure_ (i := 1) (N := some 27) (v := ?_) (a' := ?_) #[false, true, false, false, false, false] rfl rfl (by kernel_rfl) (fun _ _ _ h => h) (Or.inl ⟨by rfl, ?_⟩) ?_ ?_
     rotate_left
     ·intro w'
      go_simp
      with_reducible rfl
     rotate_left
     ·simp only [Act.put, List.setIfInBounds_toArray, List.set_cons_zero, List.set_cons_succ, i64_w, i32_w]
      rfl
     refine pure_ (i := 5) (N := some 31) (v := ?_) (a' := ?_) #[false, true, false, false, false, true] rfl rfl (by kernel_rfl) (fun _ _ _ h => h) (Or.inl ⟨by rfl, ?_⟩) ?_ ?_
     rotate_left
     ·intro w'
      go_simp
      with_reducible rfl
     rotate_left
     ·simp only [Act.put, List.setIfInBounds_toArray, List.set_cons_zero, List.set_cons_succ, i64_w, i32_w]
      rfl
     refine take_ (i := 0) (N := some 26) (v := ?_) (a' := ?_) #[true, true, false, false, false, true] rfl rfl (by kernel_rfl) (fun _ _ _ h => h) (Or.inl ⟨by rfl, ?_⟩) hHeld ?_ ?_
     rotate_left
     ·rintro w' ⟨s0, s1⟩
      go_simp
      with_reducible rfl
     rotate_left
     ·simp only [Act.put, List.setIfInBounds_toArray, List.set_cons_zero, List.set_cons_succ, i64_w, i32_w]
      rfl
     refine one_ (i := 2) (N := some 28) #[true, true, true, false, false, true] rfl rfl (by kernel_rfl) (by decide) (fun K hK => ?_)
     refine go1 Tryd.func19 #[.int .u8 a1] ?_
     with_reducible refine (maquettelaw05_Make.calls kj4 a1 t208 t209 _ A27.out).mono ?_
     rintro e w29 ⟨rfl, hb⟩
     refine ⟨_, rfl, ?_⟩
     replace BK202 := bkb BK202 hb
     replace HB := bst hb
     (try clear hb)
     (try clear hb2)
     (try clear hk)
     (try clear hi)
     refine hK.out _ _ ⟨(blk_cell BK202.out 0).trans rfl, (blk_cell BK202.out 1).trans rfl⟩ (fun hHeld => ?_)
     clear hK K
     refine nm (some 28) ?_
     refine one_ (i := 3) (N := some 29) #[true, true, true, true, false, true] rfl rfl (by kernel_rfl) (by decide) (fun K hK => ?_)
     refine Kd.R_lit_step k24 _ 24 ?hg (N := 29) ?hd (xs := ([(⟨a0_0, a0_1⟩ : S24), (⟨t208, t209⟩ : S24)] : List (S24))) (inner := [.int .u32 a0_0, .int .i64 a0_1, .int .u32 t208, .int .i64 t209]) (ok := fun _ => True) (okp := fun _ => True) ?hr ?hp (fun _ hk => hk) trivial (Below.refl _ _) (Nat.le_refl _) (by simp) ?_; (case hd => rfl); (case hg => rfl); (case hr => first | (go_simp; done) | (go_simp; rfl)); (case hp => exact (Reps.c2 (show Kd.M k24 _ _ _ (⟨a0_0, a0_1⟩ : S24) [.int .u32 a0_0, .int .i64 a0_1] from (k24_mkM _ _ _ (⟨a0_0, a0_1⟩ : S24) )) (Reps.c2 (show Kd.M k24 _ _ _ (⟨t208, t209⟩ : S24) [.int .u32 t208, .int .i64 t209] from (k24_mkM _ _ _ (⟨t208, t209⟩ : S24) )) (Reps.none _ _))))
     intro v211 w30 ho31 hb hg_ hnew_
     clear hg_ hnew_
     (first | rw [← Ny210.out] at ho31 | (simp only [Int.reduceToNat] at ho31; rw [← Ny210.out] at ho31))
     have HO212 := Aside0.mk (Kd.R_lower (Kd.R_newB ho31 (g := gb202) (o := .cells #[.int .u32 a0_0, .int .i64 a0_1] 24 (0, 0)) (bkq BK202)) (below_size bel))
     replace BK202 := bkb BK202 hb
     replace HB := bst hb
     clear hb ho31
     obtain ⟨Ao32, co32, eo32⟩ := Kd.R_slice HO212.out
     (first | subst eo32 | (injection eo32 with f1_ f2_ f3_; have f4_ := f1_.symm; have f5_ := f3_.symm; clear f1_ f2_ f3_; subst f4_; subst f5_))
     refine hK.out _ _ ⟨(blk_cell BK202.out 0).trans rfl, (blk_cell BK202.out 1).trans rfl⟩ (fun hHeld => ?_)
     clear hK K
     refine nm (some 29) ?_
     refine pure_ (i := 4) (N := some 30) (v := ?_) (a' := ?_) #[true, true, true, true, true, true] rfl rfl (by kernel_rfl) (fun _ _ _ h => h) (Or.inl ⟨by rfl, ?_⟩) ?_ ?_
     rotate_left
     ·intro w'
      go_simp
      with_reducible rfl
     rotate_left
     ·simp only [Act.put, List.setIfInBounds_toArray, List.set_cons_zero, List.set_cons_succ, i64_w, i32_w]
      rfl
     refine done_ (by kernel_rfl) ?_
     try go_wp2
     go_loopg [31] kj4 (fun kq v31 w' => ∃ (x31_2 : Int), v31 = .int .i64 x31_2 ∧ Aside0 (maquettelaw05_PrefixText.l0 kq y210 (y210.length : Int) x31_2 = some r) ∧ Aside0 (kq ≤ kj4) ∧ Aside0 (Kd.R k24 24 w' w.heap.size (fun k_ => k_ ≠ gb202) (.slice Ao32 y210.length co32) y210) ∧ Aside0 (w'.heap[gb202]? = some (.cells #[.int .u32 a0_0, .int .i64 a0_1] 24 (0, 0))) ∧ Aside0 (Below w.heap.size w w'))
     case atStart => exact ⟨(0), (by first | rfl | (simp; done) | (simp [*]; done)), H', ⟨Nat.le_refl _⟩, ⟨by (with_reducible repeat (first | apply Kd.R_alloc | apply Kd.R_drewN | apply Kd.R_drew)); exact Kd.R_mono HO212.out (fun _ hk => hk.2)⟩, ⟨bkq BK202⟩, ⟨by repeat (first | (with_reducible first | exact HB.out | apply below_alloc | apply pw_below_drewN | apply below_drew1 | refine below_set ?_ GE202.out) | exact HB.out)⟩⟩
     case round =>
      clear H'
      try clear c1
      try clear c2
      try clear p2 p2
      try clear c3
      try clear c4
      try clear c10
      try clear c10b0
      try clear c10b1
      try clear c10b2
      try clear c15
      try clear c16
      try clear c17
      try clear c18
      try clear c19
      try clear c26
      obtain ⟨x31_2, rfl, HA, HK2, HO_29, BK202, HB⟩ := hrel
      cases gk with
      | zero => exact absurd HA.out (by simp [maquettelaw05_PrefixText.l0])
      | succ k2 =>
       have H := HA.out
       clear HA
       simp only [maquettelaw05_PrefixText.l0] at H
       by_cases c33 : x31_2 < (y210.length : Int)
       ·rw [if_pos c33] at H
        have c33b0 : decide (x31_2 < (y210.length : Int)) = true := decide_eq_true c33
        clear c33
        by_cases c34 : 0 ≤ x31_2
        ·rw [if_pos c34] at H
         have c34b0 : decide (0 ≤ x31_2) = true := decide_eq_true c34
         clear c34
         by_cases c35 : x31_2 < (y210.length : Int)
         ·rw [if_pos c35] at H
          have c35b0 : decide (x31_2 < (y210.length : Int)) = true := decide_eq_true c35
          clear c35
          replace H := Option.bind_eq_some_iff.mp H
          obtain ⟨t215, A360, H⟩ := H
          replace H : (if t215 = true then ((prefix_Text.f k2 ((rd_T24 y210 x31_2).f0) ((rd_T24 y210 x31_2).f1)).bind fun t216 => ((prefix_Parse.f k2 t216).bind fun bt217 => ((prefix_Text.f k2 ((rd_T24 y210 x31_2).f0) ((rd_T24 y210 x31_2).f1)).bind fun t221 => ((maquettelaw05_text.f k2 ((rd_T24 y210 x31_2).f0) ((rd_T24 y210 x31_2).f1)).bind fun t222 => (if t221.toList = t222.toList then (if bt217.2.2 = true then (if (!(bt217.1 == ((rd_T24 y210 x31_2).f0)) || (!(bt217.2.1 == ((rd_T24 y210 x31_2).f1)))) = true then (some false) else (maquettelaw05_PrefixText.l0 k2 y210 (y210.length : Int) (wrap64 (x31_2 + 1)))) else (some false)) else (some false)))))) else (maquettelaw05_PrefixText.l0 k2 y210 (y210.length : Int) (wrap64 (x31_2 + 1)))) = some r := H
          have A36 := Aside0.mk A360
          clear A360
          by_cases c37 : t215 = true
          ·subst c37
           have H1 : ((prefix_Text.f k2 ((rd_T24 y210 x31_2).f0) ((rd_T24 y210 x31_2).f1)).bind fun t216 => ((prefix_Parse.f k2 t216).bind fun bt217 => ((prefix_Text.f k2 ((rd_T24 y210 x31_2).f0) ((rd_T24 y210 x31_2).f1)).bind fun t221 => ((maquettelaw05_text.f k2 ((rd_T24 y210 x31_2).f0) ((rd_T24 y210 x31_2).f1)).bind fun t222 => (if t221.toList = t222.toList then (if bt217.2.2 = true then (if (!(bt217.1 == ((rd_T24 y210 x31_2).f0)) || (!(bt217.2.1 == ((rd_T24 y210 x31_2).f1)))) = true then (some false) else (maquettelaw05_PrefixText.l0 k2 y210 (y210.length : Int) (wrap64 (x31_2 + 1)))) else (some false)) else (some false)))))) = some r := by rw [if_pos rfl] at H; exact H
           clear H
           have H := H1
           clear H1
           replace H := Option.bind_eq_some_iff.mp H
           obtain ⟨t216, A380, H⟩ := H
           replace H : ((prefix_Parse.f k2 t216).bind fun bt217 => ((prefix_Text.f k2 ((rd_T24 y210 x31_2).f0) ((rd_T24 y210 x31_2).f1)).bind fun t221 => ((maquettelaw05_text.f k2 ((rd_T24 y210 x31_2).f0) ((rd_T24 y210 x31_2).f1)).bind fun t222 => (if t221.toList = t222.toList then (if bt217.2.2 = true then (if (!(bt217.1 == ((rd_T24 y210 x31_2).f0)) || (!(bt217.2.1 == ((rd_T24 y210 x31_2).f1)))) = true then (some false) else (maquettelaw05_PrefixText.l0 k2 y210 (y210.length : Int) (wrap64 (x31_2 + 1)))) else (some false)) else (some false))))) = some r := H
           have A38 := Aside0.mk A380
           clear A380
           replace H := Option.bind_eq_some_iff.mp H
           obtain ⟨⟨t217, t218, t219⟩, A390, H⟩ := H
           replace H : ((prefix_Text.f k2 ((rd_T24 y210 x31_2).f0) ((rd_T24 y210 x31_2).f1)).bind fun t221 => ((maquettelaw05_text.f k2 ((rd_T24 y210 x31_2).f0) ((rd_T24 y210 x31_2).f1)).bind fun t222 => (if t221.toList = t222.toList then (if t219 = true then (if (!(t217 == ((rd_T24 y210 x31_2).f0)) || (!(t218 == ((rd_T24 y210 x31_2).f1)))) = true then (some false) else (maquettelaw05_PrefixText.l0 k2 y210 (y210.length : Int) (wrap64 (x31_2 + 1)))) else (some false)) else (some false)))) = some r := H
           have A39 := Aside0.mk A390
           clear A390
           replace H := Option.bind_eq_some_iff.mp H
           obtain ⟨t221, A400, H⟩ := H
           replace H : ((maquettelaw05_text.f k2 ((rd_T24 y210 x31_2).f0) ((rd_T24 y210 x31_2).f1)).bind fun t222 => (if t221.toList = t222.toList then (if t219 = true then (if (!(t217 == ((rd_T24 y210 x31_2).f0)) || (!(t218 == ((rd_T24 y210 x31_2).f1)))) = true then (some false) else (maquettelaw05_PrefixText.l0 k2 y210 (y210.length : Int) (wrap64 (x31_2 + 1)))) else (some false)) else (some false))) = some r := H
           have A40 := Aside0.mk A400
           clear A400
           replace H := Option.bind_eq_some_iff.mp H
           obtain ⟨t222, A410, H⟩ := H
           replace H : (if t221.toList = t222.toList then (if t219 = true then (if (!(t217 == ((rd_T24 y210 x31_2).f0)) || (!(t218 == ((rd_T24 y210 x31_2).f1)))) = true then (some false) else (maquettelaw05_PrefixText.l0 k2 y210 (y210.length : Int) (wrap64 (x31_2 + 1)))) else (some false)) else (some false)) = some r := H
           have A41 := Aside0.mk A410
           clear A410
           by_cases c42 : t221.toList = t222.toList
           ·rw [if_pos c42] at H
            have c42b0 : (t221.toList == t222.toList) = true := beq_iff_eq.mpr c42
            have c42b1 : (t221.toList != t222.toList) = false := bne_eq_false_iff_eq.mpr c42
            clear c42
            by_cases c43 : t219 = true
            ·subst c43
             have H1 : (if (!(t217 == ((rd_T24 y210 x31_2).f0)) || (!(t218 == ((rd_T24 y210 x31_2).f1)))) = true then (some false) else (maquettelaw05_PrefixText.l0 k2 y210 (y210.length : Int) (wrap64 (x31_2 + 1)))) = some r := by rw [if_pos rfl] at H; exact H
             clear H
             have H := H1
             clear H1
             by_cases c44 : (!(t217 == ((rd_T24 y210 x31_2).f0)) || (!(t218 == ((rd_T24 y210 x31_2).f1)))) = true
             ·rw [if_pos c44] at H
              have c44b0 : (!(t217 == ((rd_T24 y210 x31_2).f0)) || (!(t218 == ((rd_T24 y210 x31_2).f1)))) = true := c44
              clear c44
              obtain rfl := Option.some.inj H
              have p213 : 0 ≤ (x31_2 : Int) := of_decide_eq_true (by first | (with_reducible assumption) | assumption)
              have q213 : x31_2 < (y210.length : Int) := of_decide_eq_true (by first | (with_reducible assumption) | assumption)
              obtain ⟨ad213, e213, hx213_0, hx213_1⟩ := at_T24 (Kd.R_reads' HO_29.out).2.2 x31_2 p213 q213
              cases e213
              replace p213 := eq_true p213
              replace q213 := eq_true q213
              try go_wp2_with (first | ((with_reducible refine gate_dst (N := 6) rfl ?_); refine bx 6 (cs := #[.int .u32 0, .int .i64 0]) (t := 24) (h := ?_); intro gb214 hg w45 hbox hb; have BK214 := Aside0.mk hbox; have GW214 : Aside0 (w.heap.size ≤ gb214) := bge hg; have GE214 : Aside0 (w.heap.size ≤ gb214) := bge hg; have NB202_214 := bne BK202 hg; have NB214_202 := bnf BK202 hg; replace HO_29 := Aside0.mk (Kd.R_below (Kd.R_elderB (kR HO_29) gb214 (Nat.le_of_eq hg.symm)) hb); replace BK202 := bkb BK202 hb; replace HB := bst hb; clear hb hbox hg; have hnb46 := NB214_202.out; have hnc46 := NB202_214.out; obtain ⟨hcz47_0, hcz47_1, hfz47_0, hfz47_1⟩ := bc2 BK214) | ((with_reducible refine gate_dst (N := 36) rfl ?_); refine gl (some 36) Tryd.func17 #[.agg #[.int .u32 ((rd_T24 y210 x31_2).f0), .int .i64 ((rd_T24 y210 x31_2).f1)]] ?_; (with_reducible refine (maquettelaw05_may.calls k2 ((rd_T24 y210 x31_2).f0) ((rd_T24 y210 x31_2).f1) true _ A36.out).mono ?_); rintro e w48 ⟨rfl, hb⟩; refine ⟨_, rfl, ?_⟩; replace HO_29 := Aside0.mk (Kd.R_below (by (with_reducible repeat (first | apply Kd.R_alloc | apply Kd.R_drewN | apply Kd.R_drew)); exact (Kd.R_mono (Kd.R_far (p := ⟨gb214, 1, none⟩) (Kd.R_far (p := ⟨gb214, 0, none⟩) (Kd.R_mono HO_29.out (fun k_ hk => (⟨hk, hk.2⟩ : _ ∧ k_ ≠ gb214))) (fun _ hk => hk.2) (.int .u32 ((rd_T24 y210 x31_2).f0))) (fun _ hk => hk.2) (.int .i64 ((rd_T24 y210 x31_2).f1))) (fun _ h_ => h_.1))) hb); replace BK202 := bkb BK202 hb; replace BK214 := Aside0.mk (blk_below (g := gb214) (o := .cells #[.int .u32 ((rd_T24 y210 x31_2).f0), .int .i64 ((rd_T24 y210 x31_2).f1)] 24 (0, 0)) (bkp BK214) hb); replace HB := bst hb; (try clear hb); (try clear hb2); (try clear hk); (try clear hi); obtain ⟨hcz49_0, hcz49_1, hfz49_0, hfz49_1⟩ := bc2 BK214) | ((with_reducible refine gate_dst (N := 40) rfl ?_); refine gl (some 40) Tryd.func18 #[.agg #[.int .u32 ((rd_T24 y210 x31_2).f0), .int .i64 ((rd_T24 y210 x31_2).f1)]] ?_; (with_reducible refine (prefix_Text.calls k2 ((rd_T24 y210 x31_2).f0) ((rd_T24 y210 x31_2).f1) t216 _ A38.out (by with_reducible first | exact hInv | exact Go.Proofs.YtkbjjamaneiijaaDoor.Inv.Inv.below hInv HB.out | exact Go.Proofs.YtkbjjamaneiijaaDoor.Inv.Inv.below hInv bel | (repeat (first | exact hInv | exact Go.Proofs.YtkbjjamaneiijaaDoor.Inv.Inv.below hInv HB.out | exact Go.Proofs.YtkbjjamaneiijaaDoor.Inv.Inv.below hInv bel | apply Go.Proofs.YtkbjjamaneiijaaDoor.Inv.Inv.alloc | apply Go.Proofs.YtkbjjamaneiijaaDoor.Inv.Inv.drewN | apply Go.Proofs.YtkbjjamaneiijaaDoor.Inv.Inv.drew)))).mono ?_); rintro e w50 ⟨rfl, hb⟩; refine ⟨_, rfl, ?_⟩; replace HO_29 := Aside0.mk (Kd.R_below (kR HO_29) hb); replace BK202 := bkb BK202 hb; replace BK214 := bkb BK214 hb; replace HB := bst hb; (try clear hb); (try clear hb2); (try clear hk); (try clear hi)) | ((with_reducible refine gate_dst (N := 41) rfl ?_); refine gl (some 41) Tryd.func20 #[.string t216] ?_; (with_reducible refine (prefix_Parse.calls k2 t216 t217 t218 true _ A39.out (by with_reducible first | exact hInv | exact Go.Proofs.YtkbjjamaneiijaaDoor.Inv.Inv.below hInv HB.out | exact Go.Proofs.YtkbjjamaneiijaaDoor.Inv.Inv.below hInv bel | (repeat (first | exact hInv | exact Go.Proofs.YtkbjjamaneiijaaDoor.Inv.Inv.below hInv HB.out | exact Go.Proofs.YtkbjjamaneiijaaDoor.Inv.Inv.below hInv bel | apply Go.Proofs.YtkbjjamaneiijaaDoor.Inv.Inv.alloc | apply Go.Proofs.YtkbjjamaneiijaaDoor.Inv.Inv.drewN | apply Go.Proofs.YtkbjjamaneiijaaDoor.Inv.Inv.drew)))).mono ?_); rintro e w51 ⟨rfl, hb⟩; refine ⟨_, rfl, ?_⟩; replace HO_29 := Aside0.mk (Kd.R_below (kR HO_29) hb); replace BK202 := bkb BK202 hb; replace BK214 := bkb BK214 hb; replace HB := bst hb; (try clear hb); (try clear hb2); (try clear hk); (try clear hi)) | ((with_reducible refine gate_dst (N := 7) rfl ?_); refine bx 7 (cs := #[.int .u32 0, .int .i64 0]) (t := 24) (h := ?_); intro gb220 hg w52 hbox hb; have BK220 := Aside0.mk hbox; have GW220 : Aside0 (w.heap.size ≤ gb220) := bge hg; have GE220 : Aside0 (w.heap.size ≤ gb220) := bge hg; have NB202_220 := bne BK202 hg; have NB220_202 := bnf BK202 hg; have NB214_220 := bne BK214 hg; have NB220_214 := bnf BK214 hg; replace HO_29 := Aside0.mk (Kd.R_below (Kd.R_elderB (kR HO_29) gb220 (Nat.le_of_eq hg.symm)) hb); replace BK202 := bkb BK202 hb; replace BK214 := bkb BK214 hb; replace HB := bst hb; clear hb hbox hg; have hnb53 := NB220_202.out; have hnc53 := NB202_220.out; have hnb54 := NB220_214.out; have hnc54 := NB214_220.out; obtain ⟨hcz55_0, hcz55_1, hfz55_0, hfz55_1⟩ := bc2 BK220))
              have n0_ : Aside0 (Kd.R k24 24 ((w52.setCell ⟨gb220, 0, none⟩ (.int .u32 t217)).setCell ⟨gb220, 1, none⟩ (.int .i64 t218)) w.heap.size (fun k_ => k_ ≠ gb202 ∧ k_ ≠ gb214 ∧ k_ ≠ gb220) (.slice (some ad213) y210.length co32) y210) := ⟨by (with_reducible repeat (first | apply Kd.R_alloc | apply Kd.R_drewN | apply Kd.R_drew)); exact Kd.R_mono (Kd.R_far (p := ⟨gb220, 1, none⟩) (Kd.R_far (p := ⟨gb220, 0, none⟩) (Kd.R_mono HO_29.out (fun k_ hk => (⟨hk, hk.2⟩ : _ ∧ k_ ≠ gb220))) (fun _ hk => hk.2) (.int .u32 t217)) (fun _ hk => hk.2) (.int .i64 t218)) (fun _ hk => ⟨hk.1.1.1, ⟨hk.1.1.2, hk.1.2⟩⟩)⟩
              have n1_ : Aside0 (((w52.setCell ⟨gb220, 0, none⟩ (.int .u32 t217)).setCell ⟨gb220, 1, none⟩ (.int .i64 t218)).heap[gb202]? = some (.cells #[.int .u32 a0_0, .int .i64 a0_1] 24 (0, 0))) := ⟨bkq BK202⟩
              have n2_ : Aside0 (((w52.setCell ⟨gb220, 0, none⟩ (.int .u32 t217)).setCell ⟨gb220, 1, none⟩ (.int .i64 t218)).heap[gb214]? = some (.cells #[.int .u32 ((rd_T24 y210 x31_2).f0), .int .i64 ((rd_T24 y210 x31_2).f1)] 24 (0, 0))) := ⟨bkq BK214⟩
              have n3_ : Aside0 (((w52.setCell ⟨gb220, 0, none⟩ (.int .u32 t217)).setCell ⟨gb220, 1, none⟩ (.int .i64 t218)).heap[gb220]? = some (.cells #[.int .u32 t217, .int .i64 t218] 24 (0, 0))) := ⟨bkp BK220⟩
              have n4_ : Aside0 (Below w.heap.size w ((w52.setCell ⟨gb220, 0, none⟩ (.int .u32 t217)).setCell ⟨gb220, 1, none⟩ (.int .i64 t218))) := ⟨by repeat (first | (with_reducible first | exact HB.out | apply below_alloc | apply pw_below_drewN | apply below_drew1 | refine below_set ?_ GE202.out | refine below_set ?_ GE214.out | refine below_set ?_ GE220.out) | exact HB.out)⟩
              (try clear HO_29)
              (try clear BK202)
              (try clear BK214)
              (try clear BK220)
              (try clear HB)
              generalize ((w52.setCell ⟨gb220, 0, none⟩ (.int .u32 t217)).setCell ⟨gb220, 1, none⟩ (.int .i64 t218)) = w56 at n0_ n1_ n2_ n3_ n4_ ⊢
              have HO_29 := n0_
              have BK202 := n1_
              have BK214 := n2_
              have BK220 := n3_
              have HB := n4_
              clear n0_ n1_ n2_ n3_ n4_
              replace HO_29 := Aside0.mk (Kd.R_drew HO_29.out)
              replace BK202 := Aside0.mk (blk_drew BK202.out)
              replace BK214 := Aside0.mk (blk_drew BK214.out)
              replace BK220 := Aside0.mk (blk_drew BK220.out)
              replace HB := Aside0.mk (below_drew1 HB.out)
              refine start_ (n := 14) (S := fun w' => w'.cell? ⟨gb214, 0, none⟩ = some (.int .u32 ((rd_T24 y210 x31_2).f0)) ∧ w'.cell? ⟨gb214, 1, none⟩ = some (.int .i64 ((rd_T24 y210 x31_2).f1)) ∧ w'.cell? ⟨gb220, 0, none⟩ = some (.int .u32 t217) ∧ w'.cell? ⟨gb220, 1, none⟩ = some (.int .i64 t218)) (ds := []) #[false, false, false, false, false, false, false, false, false, false, false, false, false, false] (by kernel_rfl) rfl rfl ⟨(blk_cell BK214.out 0).trans rfl, (blk_cell BK214.out 1).trans rfl, (blk_cell BK220.out 0).trans rfl, (blk_cell BK220.out 1).trans rfl⟩ (fun hHeld => ?_); refine with_tabW maquettelaw05_PrefixText.tab10 maquettelaw05_PrefixText.bits10 (fun HT_ HW_ => ?_)
              generalize w56.drew = w57 at HO_29 BK202 BK214 BK220 HB hHeld ⊢
              refine tk HT_ HW_ 0 (some 44) (mk 14 1) hHeld ?_
              refine tk HT_ HW_ 2 (some 46) (mk 14 5) hHeld ?_
              refine on HT_ 1 (some 45) (mk 14 7) fun K hK => ?_
              refine go1 Tryd.func18 #[.agg #[.int .u32 ((rd_T24 y210 x31_2).f0), .int .i64 ((rd_T24 y210 x31_2).f1)]] ?_
              with_reducible refine (prefix_Text.calls k2 ((rd_T24 y210 x31_2).f0) ((rd_T24 y210 x31_2).f1) t221 _ A40.out (by with_reducible first | exact hInv | exact Go.Proofs.YtkbjjamaneiijaaDoor.Inv.Inv.below hInv HB.out | exact Go.Proofs.YtkbjjamaneiijaaDoor.Inv.Inv.below hInv bel | (repeat (first | exact hInv | exact Go.Proofs.YtkbjjamaneiijaaDoor.Inv.Inv.below hInv HB.out | exact Go.Proofs.YtkbjjamaneiijaaDoor.Inv.Inv.below hInv bel | apply Go.Proofs.YtkbjjamaneiijaaDoor.Inv.Inv.alloc | apply Go.Proofs.YtkbjjamaneiijaaDoor.Inv.Inv.drewN | apply Go.Proofs.YtkbjjamaneiijaaDoor.Inv.Inv.drew)))).mono ?_
              rintro e w58 ⟨rfl, hb⟩
              refine ⟨_, rfl, ?_⟩
              replace HO_29 := Aside0.mk (Kd.R_below (kR HO_29) hb)
              replace BK202 := bkb BK202 hb
              replace BK214 := bkb BK214 hb
              replace BK220 := bkb BK220 hb
              replace HB := bst hb
              (try clear hb)
              (try clear hb2)
              (try clear hk)
              (try clear hi)
              refine hK.out _ _ ⟨(blk_cell BK214.out 0).trans rfl, (blk_cell BK214.out 1).trans rfl, (blk_cell BK220.out 0).trans rfl, (blk_cell BK220.out 1).trans rfl⟩ (fun hHeld => ?_)
              clear hK K
              refine nm (some 45) ?_
              refine on HT_ 3 (some 47) (mk 14 15) fun K hK => ?_
              refine go1 Tryd.func21 #[.agg #[.int .u32 ((rd_T24 y210 x31_2).f0), .int .i64 ((rd_T24 y210 x31_2).f1)]] ?_
              with_reducible refine (maquettelaw05_text.calls k2 ((rd_T24 y210 x31_2).f0) ((rd_T24 y210 x31_2).f1) t222 _ A41.out).mono ?_
              rintro e w59 ⟨rfl, hb⟩
              refine ⟨_, rfl, ?_⟩
              replace HO_29 := Aside0.mk (Kd.R_below (kR HO_29) hb)
              replace BK202 := bkb BK202 hb
              replace BK214 := bkb BK214 hb
              replace BK220 := bkb BK220 hb
              replace HB := bst hb
              (try clear hb)
              (try clear hb2)
              (try clear hk)
              (try clear hi)
              refine hK.out _ _ ⟨(blk_cell BK214.out 0).trans rfl, (blk_cell BK214.out 1).trans rfl, (blk_cell BK220.out 0).trans rfl, (blk_cell BK220.out 1).trans rfl⟩ (fun hHeld => ?_)
              clear hK K
              refine nm (some 47) ?_
              refine pu HT_ 4 (some 48) (mk 14 31) ?_
              refine pu HT_ 5 (some 49) (mk 14 63) ?_
              refine pu HT_ 6 (some 50) (mk 14 127) ?_
              refine pu HT_ 7 (some 51) (mk 14 255) ?_
              refine pu HT_ 8 (some 52) (mk 14 511) ?_
              refine pu HT_ 9 (some 53) (mk 14 1023) ?_
              refine tk HT_ HW_ 10 (some 54) (mk 14 2047) hHeld ?_
              refine tk HT_ HW_ 11 (some 55) (mk 14 4095) hHeld ?_
              refine pu HT_ 12 (some 56) (mk 14 8191) ?_
              refine pu HT_ 13 (some 57) (mk 14 16383) ?_
              refine done_ (done_of HT_.out (by kernel_rfl)) ?_
              try go_wp2
              go_ret
              exact ⟨by first | rfl | (simp [errW_none, errW_some] <;> rfl) | (simp [*, errW_none, errW_some] <;> rfl), by repeat (first | (with_reducible first | exact HB.out | apply below_alloc | apply pw_below_drewN | apply below_drew1 | refine below_set ?_ GE202.out | refine below_set ?_ GE214.out | refine below_set ?_ GE220.out) | exact HB.out)⟩
             ·rw [if_neg c44] at H
              have c44b0 : (!(t217 == ((rd_T24 y210 x31_2).f0)) || (!(t218 == ((rd_T24 y210 x31_2).f1)))) = false := by simpa using c44
              clear c44
              have H' := Aside0.mk H
              clear H
              have p213 : 0 ≤ (x31_2 : Int) := of_decide_eq_true (by first | (with_reducible assumption) | assumption)
              have q213 : x31_2 < (y210.length : Int) := of_decide_eq_true (by first | (with_reducible assumption) | assumption)
              obtain ⟨ad213, e213, hx213_0, hx213_1⟩ := at_T24 (Kd.R_reads' HO_29.out).2.2 x31_2 p213 q213
              cases e213
              replace p213 := eq_true p213
              replace q213 := eq_true q213
              try go_wp2_with (first | ((with_reducible refine gate_dst (N := 6) rfl ?_); refine bx 6 (cs := #[.int .u32 0, .int .i64 0]) (t := 24) (h := ?_); intro gb214 hg w60 hbox hb; have BK214 := Aside0.mk hbox; have GW214 : Aside0 (w.heap.size ≤ gb214) := bge hg; have GE214 : Aside0 (w.heap.size ≤ gb214) := bge hg; have NB202_214 := bne BK202 hg; have NB214_202 := bnf BK202 hg; replace HO_29 := Aside0.mk (Kd.R_below (Kd.R_elderB (kR HO_29) gb214 (Nat.le_of_eq hg.symm)) hb); replace BK202 := bkb BK202 hb; replace HB := bst hb; clear hb hbox hg; have hnb61 := NB214_202.out; have hnc61 := NB202_214.out; obtain ⟨hcz62_0, hcz62_1, hfz62_0, hfz62_1⟩ := bc2 BK214) | ((with_reducible refine gate_dst (N := 36) rfl ?_); refine gl (some 36) Tryd.func17 #[.agg #[.int .u32 ((rd_T24 y210 x31_2).f0), .int .i64 ((rd_T24 y210 x31_2).f1)]] ?_; (with_reducible refine (maquettelaw05_may.calls k2 ((rd_T24 y210 x31_2).f0) ((rd_T24 y210 x31_2).f1) true _ A36.out).mono ?_); rintro e w63 ⟨rfl, hb⟩; refine ⟨_, rfl, ?_⟩; replace HO_29 := Aside0.mk (Kd.R_below (by (with_reducible repeat (first | apply Kd.R_alloc | apply Kd.R_drewN | apply Kd.R_drew)); exact (Kd.R_mono (Kd.R_far (p := ⟨gb214, 1, none⟩) (Kd.R_far (p := ⟨gb214, 0, none⟩) (Kd.R_mono HO_29.out (fun k_ hk => (⟨hk, hk.2⟩ : _ ∧ k_ ≠ gb214))) (fun _ hk => hk.2) (.int .u32 ((rd_T24 y210 x31_2).f0))) (fun _ hk => hk.2) (.int .i64 ((rd_T24 y210 x31_2).f1))) (fun _ h_ => h_.1))) hb); replace BK202 := bkb BK202 hb; replace BK214 := Aside0.mk (blk_below (g := gb214) (o := .cells #[.int .u32 ((rd_T24 y210 x31_2).f0), .int .i64 ((rd_T24 y210 x31_2).f1)] 24 (0, 0)) (bkp BK214) hb); replace HB := bst hb; (try clear hb); (try clear hb2); (try clear hk); (try clear hi); obtain ⟨hcz64_0, hcz64_1, hfz64_0, hfz64_1⟩ := bc2 BK214) | ((with_reducible refine gate_dst (N := 40) rfl ?_); refine gl (some 40) Tryd.func18 #[.agg #[.int .u32 ((rd_T24 y210 x31_2).f0), .int .i64 ((rd_T24 y210 x31_2).f1)]] ?_; (with_reducible refine (prefix_Text.calls k2 ((rd_T24 y210 x31_2).f0) ((rd_T24 y210 x31_2).f1) t216 _ A38.out (by with_reducible first | exact hInv | exact Go.Proofs.YtkbjjamaneiijaaDoor.Inv.Inv.below hInv HB.out | exact Go.Proofs.YtkbjjamaneiijaaDoor.Inv.Inv.below hInv bel | (repeat (first | exact hInv | exact Go.Proofs.YtkbjjamaneiijaaDoor.Inv.Inv.below hInv HB.out | exact Go.Proofs.YtkbjjamaneiijaaDoor.Inv.Inv.below hInv bel | apply Go.Proofs.YtkbjjamaneiijaaDoor.Inv.Inv.alloc | apply Go.Proofs.YtkbjjamaneiijaaDoor.Inv.Inv.drewN | apply Go.Proofs.YtkbjjamaneiijaaDoor.Inv.Inv.drew)))).mono ?_); rintro e w65 ⟨rfl, hb⟩; refine ⟨_, rfl, ?_⟩; replace HO_29 := Aside0.mk (Kd.R_below (kR HO_29) hb); replace BK202 := bkb BK202 hb; replace BK214 := bkb BK214 hb; replace HB := bst hb; (try clear hb); (try clear hb2); (try clear hk); (try clear hi)) | ((with_reducible refine gate_dst (N := 41) rfl ?_); refine gl (some 41) Tryd.func20 #[.string t216] ?_; (with_reducible refine (prefix_Parse.calls k2 t216 t217 t218 true _ A39.out (by with_reducible first | exact hInv | exact Go.Proofs.YtkbjjamaneiijaaDoor.Inv.Inv.below hInv HB.out | exact Go.Proofs.YtkbjjamaneiijaaDoor.Inv.Inv.below hInv bel | (repeat (first | exact hInv | exact Go.Proofs.YtkbjjamaneiijaaDoor.Inv.Inv.below hInv HB.out | exact Go.Proofs.YtkbjjamaneiijaaDoor.Inv.Inv.below hInv bel | apply Go.Proofs.YtkbjjamaneiijaaDoor.Inv.Inv.alloc | apply Go.Proofs.YtkbjjamaneiijaaDoor.Inv.Inv.drewN | apply Go.Proofs.YtkbjjamaneiijaaDoor.Inv.Inv.drew)))).mono ?_); rintro e w66 ⟨rfl, hb⟩; refine ⟨_, rfl, ?_⟩; replace HO_29 := Aside0.mk (Kd.R_below (kR HO_29) hb); replace BK202 := bkb BK202 hb; replace BK214 := bkb BK214 hb; replace HB := bst hb; (try clear hb); (try clear hb2); (try clear hk); (try clear hi)) | ((with_reducible refine gate_dst (N := 7) rfl ?_); refine bx 7 (cs := #[.int .u32 0, .int .i64 0]) (t := 24) (h := ?_); intro gb220 hg w67 hbox hb; have BK220 := Aside0.mk hbox; have GW220 : Aside0 (w.heap.size ≤ gb220) := bge hg; have GE220 : Aside0 (w.heap.size ≤ gb220) := bge hg; have NB202_220 := bne BK202 hg; have NB220_202 := bnf BK202 hg; have NB214_220 := bne BK214 hg; have NB220_214 := bnf BK214 hg; replace HO_29 := Aside0.mk (Kd.R_below (Kd.R_elderB (kR HO_29) gb220 (Nat.le_of_eq hg.symm)) hb); replace BK202 := bkb BK202 hb; replace BK214 := bkb BK214 hb; replace HB := bst hb; clear hb hbox hg; have hnb68 := NB220_202.out; have hnc68 := NB202_220.out; have hnb69 := NB220_214.out; have hnc69 := NB214_220.out; obtain ⟨hcz70_0, hcz70_1, hfz70_0, hfz70_1⟩ := bc2 BK220))
              have n0_ : Aside0 (Kd.R k24 24 ((w67.setCell ⟨gb220, 0, none⟩ (.int .u32 t217)).setCell ⟨gb220, 1, none⟩ (.int .i64 t218)) w.heap.size (fun k_ => k_ ≠ gb202 ∧ k_ ≠ gb214 ∧ k_ ≠ gb220) (.slice (some ad213) y210.length co32) y210) := ⟨by (with_reducible repeat (first | apply Kd.R_alloc | apply Kd.R_drewN | apply Kd.R_drew)); exact Kd.R_mono (Kd.R_far (p := ⟨gb220, 1, none⟩) (Kd.R_far (p := ⟨gb220, 0, none⟩) (Kd.R_mono HO_29.out (fun k_ hk => (⟨hk, hk.2⟩ : _ ∧ k_ ≠ gb220))) (fun _ hk => hk.2) (.int .u32 t217)) (fun _ hk => hk.2) (.int .i64 t218)) (fun _ hk => ⟨hk.1.1.1, ⟨hk.1.1.2, hk.1.2⟩⟩)⟩
              have n1_ : Aside0 (((w67.setCell ⟨gb220, 0, none⟩ (.int .u32 t217)).setCell ⟨gb220, 1, none⟩ (.int .i64 t218)).heap[gb202]? = some (.cells #[.int .u32 a0_0, .int .i64 a0_1] 24 (0, 0))) := ⟨bkq BK202⟩
              have n2_ : Aside0 (((w67.setCell ⟨gb220, 0, none⟩ (.int .u32 t217)).setCell ⟨gb220, 1, none⟩ (.int .i64 t218)).heap[gb214]? = some (.cells #[.int .u32 ((rd_T24 y210 x31_2).f0), .int .i64 ((rd_T24 y210 x31_2).f1)] 24 (0, 0))) := ⟨bkq BK214⟩
              have n3_ : Aside0 (((w67.setCell ⟨gb220, 0, none⟩ (.int .u32 t217)).setCell ⟨gb220, 1, none⟩ (.int .i64 t218)).heap[gb220]? = some (.cells #[.int .u32 t217, .int .i64 t218] 24 (0, 0))) := ⟨bkp BK220⟩
              have n4_ : Aside0 (Below w.heap.size w ((w67.setCell ⟨gb220, 0, none⟩ (.int .u32 t217)).setCell ⟨gb220, 1, none⟩ (.int .i64 t218))) := ⟨by repeat (first | (with_reducible first | exact HB.out | apply below_alloc | apply pw_below_drewN | apply below_drew1 | refine below_set ?_ GE202.out | refine below_set ?_ GE214.out | refine below_set ?_ GE220.out) | exact HB.out)⟩
              (try clear HO_29)
              (try clear BK202)
              (try clear BK214)
              (try clear BK220)
              (try clear HB)
              generalize ((w67.setCell ⟨gb220, 0, none⟩ (.int .u32 t217)).setCell ⟨gb220, 1, none⟩ (.int .i64 t218)) = w71 at n0_ n1_ n2_ n3_ n4_ ⊢
              have HO_29 := n0_
              have BK202 := n1_
              have BK214 := n2_
              have BK220 := n3_
              have HB := n4_
              clear n0_ n1_ n2_ n3_ n4_
              replace HO_29 := Aside0.mk (Kd.R_drew HO_29.out)
              replace BK202 := Aside0.mk (blk_drew BK202.out)
              replace BK214 := Aside0.mk (blk_drew BK214.out)
              replace BK220 := Aside0.mk (blk_drew BK220.out)
              replace HB := Aside0.mk (below_drew1 HB.out)
              refine start_ (n := 14) (S := fun w' => w'.cell? ⟨gb214, 0, none⟩ = some (.int .u32 ((rd_T24 y210 x31_2).f0)) ∧ w'.cell? ⟨gb214, 1, none⟩ = some (.int .i64 ((rd_T24 y210 x31_2).f1)) ∧ w'.cell? ⟨gb220, 0, none⟩ = some (.int .u32 t217) ∧ w'.cell? ⟨gb220, 1, none⟩ = some (.int .i64 t218)) (ds := []) #[false, false, false, false, false, false, false, false, false, false, false, false, false, false] (by kernel_rfl) rfl rfl ⟨(blk_cell BK214.out 0).trans rfl, (blk_cell BK214.out 1).trans rfl, (blk_cell BK220.out 0).trans rfl, (blk_cell BK220.out 1).trans rfl⟩ (fun hHeld => ?_); refine with_tabW maquettelaw05_PrefixText.tab10 maquettelaw05_PrefixText.bits10 (fun HT_ HW_ => ?_)
              generalize w71.drew = w72 at HO_29 BK202 BK214 BK220 HB hHeld ⊢
              refine tk HT_ HW_ 0 (some 44) (mk 14 1) hHeld ?_
              refine tk HT_ HW_ 2 (some 46) (mk 14 5) hHeld ?_
              refine on HT_ 1 (some 45) (mk 14 7) fun K hK => ?_
              refine go1 Tryd.func18 #[.agg #[.int .u32 ((rd_T24 y210 x31_2).f0), .int .i64 ((rd_T24 y210 x31_2).f1)]] ?_
              with_reducible refine (prefix_Text.calls k2 ((rd_T24 y210 x31_2).f0) ((rd_T24 y210 x31_2).f1) t221 _ A40.out (by with_reducible first | exact hInv | exact Go.Proofs.YtkbjjamaneiijaaDoor.Inv.Inv.below hInv HB.out | exact Go.Proofs.YtkbjjamaneiijaaDoor.Inv.Inv.below hInv bel | (repeat (first | exact hInv | exact Go.Proofs.YtkbjjamaneiijaaDoor.Inv.Inv.below hInv HB.out | exact Go.Proofs.YtkbjjamaneiijaaDoor.Inv.Inv.below hInv bel | apply Go.Proofs.YtkbjjamaneiijaaDoor.Inv.Inv.alloc | apply Go.Proofs.YtkbjjamaneiijaaDoor.Inv.Inv.drewN | apply Go.Proofs.YtkbjjamaneiijaaDoor.Inv.Inv.drew)))).mono ?_
              rintro e w73 ⟨rfl, hb⟩
              refine ⟨_, rfl, ?_⟩
              replace HO_29 := Aside0.mk (Kd.R_below (kR HO_29) hb)
              replace BK202 := bkb BK202 hb
              replace BK214 := bkb BK214 hb
              replace BK220 := bkb BK220 hb
              replace HB := bst hb
              (try clear hb)
              (try clear hb2)
              (try clear hk)
              (try clear hi)
              refine hK.out _ _ ⟨(blk_cell BK214.out 0).trans rfl, (blk_cell BK214.out 1).trans rfl, (blk_cell BK220.out 0).trans rfl, (blk_cell BK220.out 1).trans rfl⟩ (fun hHeld => ?_)
              clear hK K
              refine nm (some 45) ?_
              refine on HT_ 3 (some 47) (mk 14 15) fun K hK => ?_
              refine go1 Tryd.func21 #[.agg #[.int .u32 ((rd_T24 y210 x31_2).f0), .int .i64 ((rd_T24 y210 x31_2).f1)]] ?_
              with_reducible refine (maquettelaw05_text.calls k2 ((rd_T24 y210 x31_2).f0) ((rd_T24 y210 x31_2).f1) t222 _ A41.out).mono ?_
              rintro e w74 ⟨rfl, hb⟩
              refine ⟨_, rfl, ?_⟩
              replace HO_29 := Aside0.mk (Kd.R_below (kR HO_29) hb)
              replace BK202 := bkb BK202 hb
              replace BK214 := bkb BK214 hb
              replace BK220 := bkb BK220 hb
              replace HB := bst hb
              (try clear hb)
              (try clear hb2)
              (try clear hk)
              (try clear hi)
              refine hK.out _ _ ⟨(blk_cell BK214.out 0).trans rfl, (blk_cell BK214.out 1).trans rfl, (blk_cell BK220.out 0).trans rfl, (blk_cell BK220.out 1).trans rfl⟩ (fun hHeld => ?_)
              clear hK K
              refine nm (some 47) ?_
              refine pu HT_ 4 (some 48) (mk 14 31) ?_
              refine pu HT_ 5 (some 49) (mk 14 63) ?_
              refine pu HT_ 6 (some 50) (mk 14 127) ?_
              refine pu HT_ 7 (some 51) (mk 14 255) ?_
              refine pu HT_ 8 (some 52) (mk 14 511) ?_
              refine pu HT_ 9 (some 53) (mk 14 1023) ?_
              refine tk HT_ HW_ 10 (some 54) (mk 14 2047) hHeld ?_
              refine tk HT_ HW_ 11 (some 55) (mk 14 4095) hHeld ?_
              refine pu HT_ 12 (some 56) (mk 14 8191) ?_
              refine pu HT_ 13 (some 57) (mk 14 16383) ?_
              refine done_ (done_of HT_.out (by kernel_rfl)) ?_
              try go_wp2
              go_roundg k2
              case measure => have := HJ4.out; have := HK2.out; omega
              case rel => exact ⟨(wrap64 (x31_2 + 1)), (by first | rfl | (simp; done) | (simp [*]; done)), H', ⟨by have := HJ4.out; have := HK2.out; omega⟩, ⟨by (with_reducible repeat (first | apply Kd.R_alloc | apply Kd.R_drewN | apply Kd.R_drew)); exact Kd.R_mono HO_29.out (fun _ hk => hk.1)⟩, ⟨bkq BK202⟩, ⟨by repeat (first | (with_reducible first | exact HB.out | apply below_alloc | apply pw_below_drewN | apply below_drew1 | refine below_set ?_ GE202.out | refine below_set ?_ GE214.out | refine below_set ?_ GE220.out) | exact HB.out)⟩⟩
            ·replace c43 := Bool.eq_false_iff.mpr c43
             subst c43
             have H1 : (some false) = some r := by rw [if_neg (show ¬ (false = true) by decide)] at H; exact H
             clear H
             have H := H1
             clear H1
             obtain rfl := Option.some.inj H
             have p213 : 0 ≤ (x31_2 : Int) := of_decide_eq_true (by first | (with_reducible assumption) | assumption)
             have q213 : x31_2 < (y210.length : Int) := of_decide_eq_true (by first | (with_reducible assumption) | assumption)
             obtain ⟨ad213, e213, hx213_0, hx213_1⟩ := at_T24 (Kd.R_reads' HO_29.out).2.2 x31_2 p213 q213
             cases e213
             replace p213 := eq_true p213
             replace q213 := eq_true q213
             try go_wp2_with (first | ((with_reducible refine gate_dst (N := 6) rfl ?_); refine bx 6 (cs := #[.int .u32 0, .int .i64 0]) (t := 24) (h := ?_); intro gb214 hg w75 hbox hb; have BK214 := Aside0.mk hbox; have GW214 : Aside0 (w.heap.size ≤ gb214) := bge hg; have GE214 : Aside0 (w.heap.size ≤ gb214) := bge hg; have NB202_214 := bne BK202 hg; have NB214_202 := bnf BK202 hg; replace HO_29 := Aside0.mk (Kd.R_below (Kd.R_elderB (kR HO_29) gb214 (Nat.le_of_eq hg.symm)) hb); replace BK202 := bkb BK202 hb; replace HB := bst hb; clear hb hbox hg; have hnb76 := NB214_202.out; have hnc76 := NB202_214.out; obtain ⟨hcz77_0, hcz77_1, hfz77_0, hfz77_1⟩ := bc2 BK214) | ((with_reducible refine gate_dst (N := 36) rfl ?_); refine gl (some 36) Tryd.func17 #[.agg #[.int .u32 ((rd_T24 y210 x31_2).f0), .int .i64 ((rd_T24 y210 x31_2).f1)]] ?_; (with_reducible refine (maquettelaw05_may.calls k2 ((rd_T24 y210 x31_2).f0) ((rd_T24 y210 x31_2).f1) true _ A36.out).mono ?_); rintro e w78 ⟨rfl, hb⟩; refine ⟨_, rfl, ?_⟩; replace HO_29 := Aside0.mk (Kd.R_below (by (with_reducible repeat (first | apply Kd.R_alloc | apply Kd.R_drewN | apply Kd.R_drew)); exact (Kd.R_mono (Kd.R_far (p := ⟨gb214, 1, none⟩) (Kd.R_far (p := ⟨gb214, 0, none⟩) (Kd.R_mono HO_29.out (fun k_ hk => (⟨hk, hk.2⟩ : _ ∧ k_ ≠ gb214))) (fun _ hk => hk.2) (.int .u32 ((rd_T24 y210 x31_2).f0))) (fun _ hk => hk.2) (.int .i64 ((rd_T24 y210 x31_2).f1))) (fun _ h_ => h_.1))) hb); replace BK202 := bkb BK202 hb; replace BK214 := Aside0.mk (blk_below (g := gb214) (o := .cells #[.int .u32 ((rd_T24 y210 x31_2).f0), .int .i64 ((rd_T24 y210 x31_2).f1)] 24 (0, 0)) (bkp BK214) hb); replace HB := bst hb; (try clear hb); (try clear hb2); (try clear hk); (try clear hi); obtain ⟨hcz79_0, hcz79_1, hfz79_0, hfz79_1⟩ := bc2 BK214) | ((with_reducible refine gate_dst (N := 40) rfl ?_); refine gl (some 40) Tryd.func18 #[.agg #[.int .u32 ((rd_T24 y210 x31_2).f0), .int .i64 ((rd_T24 y210 x31_2).f1)]] ?_; (with_reducible refine (prefix_Text.calls k2 ((rd_T24 y210 x31_2).f0) ((rd_T24 y210 x31_2).f1) t216 _ A38.out (by with_reducible first | exact hInv | exact Go.Proofs.YtkbjjamaneiijaaDoor.Inv.Inv.below hInv HB.out | exact Go.Proofs.YtkbjjamaneiijaaDoor.Inv.Inv.below hInv bel | (repeat (first | exact hInv | exact Go.Proofs.YtkbjjamaneiijaaDoor.Inv.Inv.below hInv HB.out | exact Go.Proofs.YtkbjjamaneiijaaDoor.Inv.Inv.below hInv bel | apply Go.Proofs.YtkbjjamaneiijaaDoor.Inv.Inv.alloc | apply Go.Proofs.YtkbjjamaneiijaaDoor.Inv.Inv.drewN | apply Go.Proofs.YtkbjjamaneiijaaDoor.Inv.Inv.drew)))).mono ?_); rintro e w80 ⟨rfl, hb⟩; refine ⟨_, rfl, ?_⟩; replace HO_29 := Aside0.mk (Kd.R_below (kR HO_29) hb); replace BK202 := bkb BK202 hb; replace BK214 := bkb BK214 hb; replace HB := bst hb; (try clear hb); (try clear hb2); (try clear hk); (try clear hi)) | ((with_reducible refine gate_dst (N := 41) rfl ?_); refine gl (some 41) Tryd.func20 #[.string t216] ?_; (with_reducible refine (prefix_Parse.calls k2 t216 t217 t218 false _ A39.out (by with_reducible first | exact hInv | exact Go.Proofs.YtkbjjamaneiijaaDoor.Inv.Inv.below hInv HB.out | exact Go.Proofs.YtkbjjamaneiijaaDoor.Inv.Inv.below hInv bel | (repeat (first | exact hInv | exact Go.Proofs.YtkbjjamaneiijaaDoor.Inv.Inv.below hInv HB.out | exact Go.Proofs.YtkbjjamaneiijaaDoor.Inv.Inv.below hInv bel | apply Go.Proofs.YtkbjjamaneiijaaDoor.Inv.Inv.alloc | apply Go.Proofs.YtkbjjamaneiijaaDoor.Inv.Inv.drewN | apply Go.Proofs.YtkbjjamaneiijaaDoor.Inv.Inv.drew)))).mono ?_); rintro e w81 ⟨rfl, hb⟩; refine ⟨_, rfl, ?_⟩; replace HO_29 := Aside0.mk (Kd.R_below (kR HO_29) hb); replace BK202 := bkb BK202 hb; replace BK214 := bkb BK214 hb; replace HB := bst hb; (try clear hb); (try clear hb2); (try clear hk); (try clear hi)) | ((with_reducible refine gate_dst (N := 7) rfl ?_); refine bx 7 (cs := #[.int .u32 0, .int .i64 0]) (t := 24) (h := ?_); intro gb220 hg w82 hbox hb; have BK220 := Aside0.mk hbox; have GW220 : Aside0 (w.heap.size ≤ gb220) := bge hg; have GE220 : Aside0 (w.heap.size ≤ gb220) := bge hg; have NB202_220 := bne BK202 hg; have NB220_202 := bnf BK202 hg; have NB214_220 := bne BK214 hg; have NB220_214 := bnf BK214 hg; replace HO_29 := Aside0.mk (Kd.R_below (Kd.R_elderB (kR HO_29) gb220 (Nat.le_of_eq hg.symm)) hb); replace BK202 := bkb BK202 hb; replace BK214 := bkb BK214 hb; replace HB := bst hb; clear hb hbox hg; have hnb83 := NB220_202.out; have hnc83 := NB202_220.out; have hnb84 := NB220_214.out; have hnc84 := NB214_220.out; obtain ⟨hcz85_0, hcz85_1, hfz85_0, hfz85_1⟩ := bc2 BK220))
             have n0_ : Aside0 (Kd.R k24 24 ((w82.setCell ⟨gb220, 0, none⟩ (.int .u32 t217)).setCell ⟨gb220, 1, none⟩ (.int .i64 t218)) w.heap.size (fun k_ => k_ ≠ gb202 ∧ k_ ≠ gb214 ∧ k_ ≠ gb220) (.slice (some ad213) y210.length co32) y210) := ⟨by (with_reducible repeat (first | apply Kd.R_alloc | apply Kd.R_drewN | apply Kd.R_drew)); exact Kd.R_mono (Kd.R_far (p := ⟨gb220, 1, none⟩) (Kd.R_far (p := ⟨gb220, 0, none⟩) (Kd.R_mono HO_29.out (fun k_ hk => (⟨hk, hk.2⟩ : _ ∧ k_ ≠ gb220))) (fun _ hk => hk.2) (.int .u32 t217)) (fun _ hk => hk.2) (.int .i64 t218)) (fun _ hk => ⟨hk.1.1.1, ⟨hk.1.1.2, hk.1.2⟩⟩)⟩
             have n1_ : Aside0 (((w82.setCell ⟨gb220, 0, none⟩ (.int .u32 t217)).setCell ⟨gb220, 1, none⟩ (.int .i64 t218)).heap[gb202]? = some (.cells #[.int .u32 a0_0, .int .i64 a0_1] 24 (0, 0))) := ⟨bkq BK202⟩
             have n2_ : Aside0 (((w82.setCell ⟨gb220, 0, none⟩ (.int .u32 t217)).setCell ⟨gb220, 1, none⟩ (.int .i64 t218)).heap[gb214]? = some (.cells #[.int .u32 ((rd_T24 y210 x31_2).f0), .int .i64 ((rd_T24 y210 x31_2).f1)] 24 (0, 0))) := ⟨bkq BK214⟩
             have n3_ : Aside0 (((w82.setCell ⟨gb220, 0, none⟩ (.int .u32 t217)).setCell ⟨gb220, 1, none⟩ (.int .i64 t218)).heap[gb220]? = some (.cells #[.int .u32 t217, .int .i64 t218] 24 (0, 0))) := ⟨bkp BK220⟩
             have n4_ : Aside0 (Below w.heap.size w ((w82.setCell ⟨gb220, 0, none⟩ (.int .u32 t217)).setCell ⟨gb220, 1, none⟩ (.int .i64 t218))) := ⟨by repeat (first | (with_reducible first | exact HB.out | apply below_alloc | apply pw_below_drewN | apply below_drew1 | refine below_set ?_ GE202.out | refine below_set ?_ GE214.out | refine below_set ?_ GE220.out) | exact HB.out)⟩
             (try clear HO_29)
             (try clear BK202)
             (try clear BK214)
             (try clear BK220)
             (try clear HB)
             generalize ((w82.setCell ⟨gb220, 0, none⟩ (.int .u32 t217)).setCell ⟨gb220, 1, none⟩ (.int .i64 t218)) = w86 at n0_ n1_ n2_ n3_ n4_ ⊢
             have HO_29 := n0_
             have BK202 := n1_
             have BK214 := n2_
             have BK220 := n3_
             have HB := n4_
             clear n0_ n1_ n2_ n3_ n4_
             replace HO_29 := Aside0.mk (Kd.R_drew HO_29.out)
             replace BK202 := Aside0.mk (blk_drew BK202.out)
             replace BK214 := Aside0.mk (blk_drew BK214.out)
             replace BK220 := Aside0.mk (blk_drew BK220.out)
             replace HB := Aside0.mk (below_drew1 HB.out)
             refine start_ (n := 14) (S := fun w' => w'.cell? ⟨gb214, 0, none⟩ = some (.int .u32 ((rd_T24 y210 x31_2).f0)) ∧ w'.cell? ⟨gb214, 1, none⟩ = some (.int .i64 ((rd_T24 y210 x31_2).f1))) (ds := []) #[false, false, false, false, false, false, false, false, false, false, false, false, false, false] (by kernel_rfl) rfl rfl ⟨(blk_cell BK214.out 0).trans rfl, (blk_cell BK214.out 1).trans rfl⟩ (fun hHeld => ?_); refine with_tabW maquettelaw05_PrefixText.tab10 maquettelaw05_PrefixText.bits10 (fun HT_ HW_ => ?_)
             generalize w86.drew = w87 at HO_29 BK202 BK214 BK220 HB hHeld ⊢
             refine tk HT_ HW_ 0 (some 44) (mk 14 1) hHeld ?_
             refine tk HT_ HW_ 2 (some 46) (mk 14 5) hHeld ?_
             refine on HT_ 1 (some 45) (mk 14 7) fun K hK => ?_
             refine go1 Tryd.func18 #[.agg #[.int .u32 ((rd_T24 y210 x31_2).f0), .int .i64 ((rd_T24 y210 x31_2).f1)]] ?_
             with_reducible refine (prefix_Text.calls k2 ((rd_T24 y210 x31_2).f0) ((rd_T24 y210 x31_2).f1) t221 _ A40.out (by with_reducible first | exact hInv | exact Go.Proofs.YtkbjjamaneiijaaDoor.Inv.Inv.below hInv HB.out | exact Go.Proofs.YtkbjjamaneiijaaDoor.Inv.Inv.below hInv bel | (repeat (first | exact hInv | exact Go.Proofs.YtkbjjamaneiijaaDoor.Inv.Inv.below hInv HB.out | exact Go.Proofs.YtkbjjamaneiijaaDoor.Inv.Inv.below hInv bel | apply Go.Proofs.YtkbjjamaneiijaaDoor.Inv.Inv.alloc | apply Go.Proofs.YtkbjjamaneiijaaDoor.Inv.Inv.drewN | apply Go.Proofs.YtkbjjamaneiijaaDoor.Inv.Inv.drew)))).mono ?_
             rintro e w88 ⟨rfl, hb⟩
             refine ⟨_, rfl, ?_⟩
             replace HO_29 := Aside0.mk (Kd.R_below (kR HO_29) hb)
             replace BK202 := bkb BK202 hb
             replace BK214 := bkb BK214 hb
             replace BK220 := bkb BK220 hb
             replace HB := bst hb
             (try clear hb)
             (try clear hb2)
             (try clear hk)
             (try clear hi)
             refine hK.out _ _ ⟨(blk_cell BK214.out 0).trans rfl, (blk_cell BK214.out 1).trans rfl⟩ (fun hHeld => ?_)
             clear hK K
             refine nm (some 45) ?_
             refine on HT_ 3 (some 47) (mk 14 15) fun K hK => ?_
             refine go1 Tryd.func21 #[.agg #[.int .u32 ((rd_T24 y210 x31_2).f0), .int .i64 ((rd_T24 y210 x31_2).f1)]] ?_
             with_reducible refine (maquettelaw05_text.calls k2 ((rd_T24 y210 x31_2).f0) ((rd_T24 y210 x31_2).f1) t222 _ A41.out).mono ?_
             rintro e w89 ⟨rfl, hb⟩
             refine ⟨_, rfl, ?_⟩
             replace HO_29 := Aside0.mk (Kd.R_below (kR HO_29) hb)
             replace BK202 := bkb BK202 hb
             replace BK214 := bkb BK214 hb
             replace BK220 := bkb BK220 hb
             replace HB := bst hb
             (try clear hb)
             (try clear hb2)
             (try clear hk)
             (try clear hi)
             refine hK.out _ _ ⟨(blk_cell BK214.out 0).trans rfl, (blk_cell BK214.out 1).trans rfl⟩ (fun hHeld => ?_)
             clear hK K
             refine nm (some 47) ?_
             refine pu HT_ 4 (some 48) (mk 14 31) ?_
             refine pu HT_ 5 (some 49) (mk 14 63) ?_
             refine pu HT_ 6 (some 50) (mk 14 127) ?_
             refine pu HT_ 7 (some 51) (mk 14 255) ?_
             refine pu HT_ 8 (some 52) (mk 14 511) ?_
             refine pu HT_ 9 (some 53) (mk 14 1023) ?_
             refine pun HT_ 10 (some 54) (mk 14 2047) ?_
             refine pun HT_ 11 (some 55) (mk 14 4095) ?_
             refine pun HT_ 12 (some 56) (mk 14 8191) ?_
             refine pu HT_ 13 (some 57) (mk 14 16383) ?_
             refine done_ (done_of HT_.out (by kernel_rfl)) ?_
             try go_wp2
             go_ret
             exact ⟨by first | rfl | (simp [errW_none, errW_some] <;> rfl) | (simp [*, errW_none, errW_some] <;> rfl), by repeat (first | (with_reducible first | exact HB.out | apply below_alloc | apply pw_below_drewN | apply below_drew1 | refine below_set ?_ GE202.out | refine below_set ?_ GE214.out | refine below_set ?_ GE220.out) | exact HB.out)⟩
           ·rw [if_neg c42] at H
            have c42b0 : (t221.toList == t222.toList) = false := beq_eq_false_iff_ne.mpr c42
            have c42b1 : (t221.toList != t222.toList) = true := bne_iff_ne.mpr c42
            obtain rfl := Option.some.inj H
            have p213 : 0 ≤ (x31_2 : Int) := of_decide_eq_true (by first | (with_reducible assumption) | assumption)
            have q213 : x31_2 < (y210.length : Int) := of_decide_eq_true (by first | (with_reducible assumption) | assumption)
            obtain ⟨ad213, e213, hx213_0, hx213_1⟩ := at_T24 (Kd.R_reads' HO_29.out).2.2 x31_2 p213 q213
            cases e213
            replace p213 := eq_true p213
            replace q213 := eq_true q213
            try go_wp2_with (first | ((with_reducible refine gate_dst (N := 6) rfl ?_); refine bx 6 (cs := #[.int .u32 0, .int .i64 0]) (t := 24) (h := ?_); intro gb214 hg w90 hbox hb; have BK214 := Aside0.mk hbox; have GW214 : Aside0 (w.heap.size ≤ gb214) := bge hg; have GE214 : Aside0 (w.heap.size ≤ gb214) := bge hg; have NB202_214 := bne BK202 hg; have NB214_202 := bnf BK202 hg; replace HO_29 := Aside0.mk (Kd.R_below (Kd.R_elderB (kR HO_29) gb214 (Nat.le_of_eq hg.symm)) hb); replace BK202 := bkb BK202 hb; replace HB := bst hb; clear hb hbox hg; have hnb91 := NB214_202.out; have hnc91 := NB202_214.out; obtain ⟨hcz92_0, hcz92_1, hfz92_0, hfz92_1⟩ := bc2 BK214) | ((with_reducible refine gate_dst (N := 36) rfl ?_); refine gl (some 36) Tryd.func17 #[.agg #[.int .u32 ((rd_T24 y210 x31_2).f0), .int .i64 ((rd_T24 y210 x31_2).f1)]] ?_; (with_reducible refine (maquettelaw05_may.calls k2 ((rd_T24 y210 x31_2).f0) ((rd_T24 y210 x31_2).f1) true _ A36.out).mono ?_); rintro e w93 ⟨rfl, hb⟩; refine ⟨_, rfl, ?_⟩; replace HO_29 := Aside0.mk (Kd.R_below (by (with_reducible repeat (first | apply Kd.R_alloc | apply Kd.R_drewN | apply Kd.R_drew)); exact (Kd.R_mono (Kd.R_far (p := ⟨gb214, 1, none⟩) (Kd.R_far (p := ⟨gb214, 0, none⟩) (Kd.R_mono HO_29.out (fun k_ hk => (⟨hk, hk.2⟩ : _ ∧ k_ ≠ gb214))) (fun _ hk => hk.2) (.int .u32 ((rd_T24 y210 x31_2).f0))) (fun _ hk => hk.2) (.int .i64 ((rd_T24 y210 x31_2).f1))) (fun _ h_ => h_.1))) hb); replace BK202 := bkb BK202 hb; replace BK214 := Aside0.mk (blk_below (g := gb214) (o := .cells #[.int .u32 ((rd_T24 y210 x31_2).f0), .int .i64 ((rd_T24 y210 x31_2).f1)] 24 (0, 0)) (bkp BK214) hb); replace HB := bst hb; (try clear hb); (try clear hb2); (try clear hk); (try clear hi); obtain ⟨hcz94_0, hcz94_1, hfz94_0, hfz94_1⟩ := bc2 BK214) | ((with_reducible refine gate_dst (N := 40) rfl ?_); refine gl (some 40) Tryd.func18 #[.agg #[.int .u32 ((rd_T24 y210 x31_2).f0), .int .i64 ((rd_T24 y210 x31_2).f1)]] ?_; (with_reducible refine (prefix_Text.calls k2 ((rd_T24 y210 x31_2).f0) ((rd_T24 y210 x31_2).f1) t216 _ A38.out (by with_reducible first | exact hInv | exact Go.Proofs.YtkbjjamaneiijaaDoor.Inv.Inv.below hInv HB.out | exact Go.Proofs.YtkbjjamaneiijaaDoor.Inv.Inv.below hInv bel | (repeat (first | exact hInv | exact Go.Proofs.YtkbjjamaneiijaaDoor.Inv.Inv.below hInv HB.out | exact Go.Proofs.YtkbjjamaneiijaaDoor.Inv.Inv.below hInv bel | apply Go.Proofs.YtkbjjamaneiijaaDoor.Inv.Inv.alloc | apply Go.Proofs.YtkbjjamaneiijaaDoor.Inv.Inv.drewN | apply Go.Proofs.YtkbjjamaneiijaaDoor.Inv.Inv.drew)))).mono ?_); rintro e w95 ⟨rfl, hb⟩; refine ⟨_, rfl, ?_⟩; replace HO_29 := Aside0.mk (Kd.R_below (kR HO_29) hb); replace BK202 := bkb BK202 hb; replace BK214 := bkb BK214 hb; replace HB := bst hb; (try clear hb); (try clear hb2); (try clear hk); (try clear hi)) | ((with_reducible refine gate_dst (N := 41) rfl ?_); refine gl (some 41) Tryd.func20 #[.string t216] ?_; (with_reducible refine (prefix_Parse.calls k2 t216 t217 t218 t219 _ A39.out (by with_reducible first | exact hInv | exact Go.Proofs.YtkbjjamaneiijaaDoor.Inv.Inv.below hInv HB.out | exact Go.Proofs.YtkbjjamaneiijaaDoor.Inv.Inv.below hInv bel | (repeat (first | exact hInv | exact Go.Proofs.YtkbjjamaneiijaaDoor.Inv.Inv.below hInv HB.out | exact Go.Proofs.YtkbjjamaneiijaaDoor.Inv.Inv.below hInv bel | apply Go.Proofs.YtkbjjamaneiijaaDoor.Inv.Inv.alloc | apply Go.Proofs.YtkbjjamaneiijaaDoor.Inv.Inv.drewN | apply Go.Proofs.YtkbjjamaneiijaaDoor.Inv.Inv.drew)))).mono ?_); rintro e w96 ⟨rfl, hb⟩; refine ⟨_, rfl, ?_⟩; replace HO_29 := Aside0.mk (Kd.R_below (kR HO_29) hb); replace BK202 := bkb BK202 hb; replace BK214 := bkb BK214 hb; replace HB := bst hb; (try clear hb); (try clear hb2); (try clear hk); (try clear hi)) | ((with_reducible refine gate_dst (N := 7) rfl ?_); refine bx 7 (cs := #[.int .u32 0, .int .i64 0]) (t := 24) (h := ?_); intro gb220 hg w97 hbox hb; have BK220 := Aside0.mk hbox; have GW220 : Aside0 (w.heap.size ≤ gb220) := bge hg; have GE220 : Aside0 (w.heap.size ≤ gb220) := bge hg; have NB202_220 := bne BK202 hg; have NB220_202 := bnf BK202 hg; have NB214_220 := bne BK214 hg; have NB220_214 := bnf BK214 hg; replace HO_29 := Aside0.mk (Kd.R_below (Kd.R_elderB (kR HO_29) gb220 (Nat.le_of_eq hg.symm)) hb); replace BK202 := bkb BK202 hb; replace BK214 := bkb BK214 hb; replace HB := bst hb; clear hb hbox hg; have hnb98 := NB220_202.out; have hnc98 := NB202_220.out; have hnb99 := NB220_214.out; have hnc99 := NB214_220.out; obtain ⟨hcz100_0, hcz100_1, hfz100_0, hfz100_1⟩ := bc2 BK220))
            have n0_ : Aside0 (Kd.R k24 24 ((w97.setCell ⟨gb220, 0, none⟩ (.int .u32 t217)).setCell ⟨gb220, 1, none⟩ (.int .i64 t218)) w.heap.size (fun k_ => k_ ≠ gb202 ∧ k_ ≠ gb214 ∧ k_ ≠ gb220) (.slice (some ad213) y210.length co32) y210) := ⟨by (with_reducible repeat (first | apply Kd.R_alloc | apply Kd.R_drewN | apply Kd.R_drew)); exact Kd.R_mono (Kd.R_far (p := ⟨gb220, 1, none⟩) (Kd.R_far (p := ⟨gb220, 0, none⟩) (Kd.R_mono HO_29.out (fun k_ hk => (⟨hk, hk.2⟩ : _ ∧ k_ ≠ gb220))) (fun _ hk => hk.2) (.int .u32 t217)) (fun _ hk => hk.2) (.int .i64 t218)) (fun _ hk => ⟨hk.1.1.1, ⟨hk.1.1.2, hk.1.2⟩⟩)⟩
            have n1_ : Aside0 (((w97.setCell ⟨gb220, 0, none⟩ (.int .u32 t217)).setCell ⟨gb220, 1, none⟩ (.int .i64 t218)).heap[gb202]? = some (.cells #[.int .u32 a0_0, .int .i64 a0_1] 24 (0, 0))) := ⟨bkq BK202⟩
            have n2_ : Aside0 (((w97.setCell ⟨gb220, 0, none⟩ (.int .u32 t217)).setCell ⟨gb220, 1, none⟩ (.int .i64 t218)).heap[gb214]? = some (.cells #[.int .u32 ((rd_T24 y210 x31_2).f0), .int .i64 ((rd_T24 y210 x31_2).f1)] 24 (0, 0))) := ⟨bkq BK214⟩
            have n3_ : Aside0 (((w97.setCell ⟨gb220, 0, none⟩ (.int .u32 t217)).setCell ⟨gb220, 1, none⟩ (.int .i64 t218)).heap[gb220]? = some (.cells #[.int .u32 t217, .int .i64 t218] 24 (0, 0))) := ⟨bkp BK220⟩
            have n4_ : Aside0 (Below w.heap.size w ((w97.setCell ⟨gb220, 0, none⟩ (.int .u32 t217)).setCell ⟨gb220, 1, none⟩ (.int .i64 t218))) := ⟨by repeat (first | (with_reducible first | exact HB.out | apply below_alloc | apply pw_below_drewN | apply below_drew1 | refine below_set ?_ GE202.out | refine below_set ?_ GE214.out | refine below_set ?_ GE220.out) | exact HB.out)⟩
            (try clear HO_29)
            (try clear BK202)
            (try clear BK214)
            (try clear BK220)
            (try clear HB)
            generalize ((w97.setCell ⟨gb220, 0, none⟩ (.int .u32 t217)).setCell ⟨gb220, 1, none⟩ (.int .i64 t218)) = w101 at n0_ n1_ n2_ n3_ n4_ ⊢
            have HO_29 := n0_
            have BK202 := n1_
            have BK214 := n2_
            have BK220 := n3_
            have HB := n4_
            clear n0_ n1_ n2_ n3_ n4_
            replace HO_29 := Aside0.mk (Kd.R_drew HO_29.out)
            replace BK202 := Aside0.mk (blk_drew BK202.out)
            replace BK214 := Aside0.mk (blk_drew BK214.out)
            replace BK220 := Aside0.mk (blk_drew BK220.out)
            replace HB := Aside0.mk (below_drew1 HB.out)
            refine start_ (n := 14) (S := fun w' => w'.cell? ⟨gb214, 0, none⟩ = some (.int .u32 ((rd_T24 y210 x31_2).f0)) ∧ w'.cell? ⟨gb214, 1, none⟩ = some (.int .i64 ((rd_T24 y210 x31_2).f1))) (ds := []) #[false, false, false, false, false, false, false, false, false, false, false, false, false, false] (by kernel_rfl) rfl rfl ⟨(blk_cell BK214.out 0).trans rfl, (blk_cell BK214.out 1).trans rfl⟩ (fun hHeld => ?_); refine with_tabW maquettelaw05_PrefixText.tab10 maquettelaw05_PrefixText.bits10 (fun HT_ HW_ => ?_)
            generalize w101.drew = w102 at HO_29 BK202 BK214 BK220 HB hHeld ⊢
            refine tk HT_ HW_ 0 (some 44) (mk 14 1) hHeld ?_
            refine tk HT_ HW_ 2 (some 46) (mk 14 5) hHeld ?_
            refine on HT_ 1 (some 45) (mk 14 7) fun K hK => ?_
            refine go1 Tryd.func18 #[.agg #[.int .u32 ((rd_T24 y210 x31_2).f0), .int .i64 ((rd_T24 y210 x31_2).f1)]] ?_
            with_reducible refine (prefix_Text.calls k2 ((rd_T24 y210 x31_2).f0) ((rd_T24 y210 x31_2).f1) t221 _ A40.out (by with_reducible first | exact hInv | exact Go.Proofs.YtkbjjamaneiijaaDoor.Inv.Inv.below hInv HB.out | exact Go.Proofs.YtkbjjamaneiijaaDoor.Inv.Inv.below hInv bel | (repeat (first | exact hInv | exact Go.Proofs.YtkbjjamaneiijaaDoor.Inv.Inv.below hInv HB.out | exact Go.Proofs.YtkbjjamaneiijaaDoor.Inv.Inv.below hInv bel | apply Go.Proofs.YtkbjjamaneiijaaDoor.Inv.Inv.alloc | apply Go.Proofs.YtkbjjamaneiijaaDoor.Inv.Inv.drewN | apply Go.Proofs.YtkbjjamaneiijaaDoor.Inv.Inv.drew)))).mono ?_
            rintro e w103 ⟨rfl, hb⟩
            refine ⟨_, rfl, ?_⟩
            replace HO_29 := Aside0.mk (Kd.R_below (kR HO_29) hb)
            replace BK202 := bkb BK202 hb
            replace BK214 := bkb BK214 hb
            replace BK220 := bkb BK220 hb
            replace HB := bst hb
            (try clear hb)
            (try clear hb2)
            (try clear hk)
            (try clear hi)
            refine hK.out _ _ ⟨(blk_cell BK214.out 0).trans rfl, (blk_cell BK214.out 1).trans rfl⟩ (fun hHeld => ?_)
            clear hK K
            refine nm (some 45) ?_
            refine on HT_ 3 (some 47) (mk 14 15) fun K hK => ?_
            refine go1 Tryd.func21 #[.agg #[.int .u32 ((rd_T24 y210 x31_2).f0), .int .i64 ((rd_T24 y210 x31_2).f1)]] ?_
            with_reducible refine (maquettelaw05_text.calls k2 ((rd_T24 y210 x31_2).f0) ((rd_T24 y210 x31_2).f1) t222 _ A41.out).mono ?_
            rintro e w104 ⟨rfl, hb⟩
            refine ⟨_, rfl, ?_⟩
            replace HO_29 := Aside0.mk (Kd.R_below (kR HO_29) hb)
            replace BK202 := bkb BK202 hb
            replace BK214 := bkb BK214 hb
            replace BK220 := bkb BK220 hb
            replace HB := bst hb
            (try clear hb)
            (try clear hb2)
            (try clear hk)
            (try clear hi)
            refine hK.out _ _ ⟨(blk_cell BK214.out 0).trans rfl, (blk_cell BK214.out 1).trans rfl⟩ (fun hHeld => ?_)
            clear hK K
            refine nm (some 47) ?_
            refine pu HT_ 4 (some 48) (mk 14 31) ?_
            refine pu HT_ 5 (some 49) (mk 14 63) ?_
            refine pun HT_ 6 (some 50) (mk 14 127) ?_
            refine pun HT_ 7 (some 51) (mk 14 255) ?_
            refine pu HT_ 8 (some 52) (mk 14 511) ?_
            refine pu HT_ 9 (some 53) (mk 14 1023) ?_
            refine pun HT_ 10 (some 54) (mk 14 2047) ?_
            refine pun HT_ 11 (some 55) (mk 14 4095) ?_
            refine pun HT_ 12 (some 56) (mk 14 8191) ?_
            refine pu HT_ 13 (some 57) (mk 14 16383) ?_
            refine done_ (done_of HT_.out (by kernel_rfl)) ?_
            try go_wp2
            go_ret
            exact ⟨by first | rfl | (simp [errW_none, errW_some] <;> rfl) | (simp [*, errW_none, errW_some] <;> rfl), by repeat (first | (with_reducible first | exact HB.out | apply below_alloc | apply pw_below_drewN | apply below_drew1 | refine below_set ?_ GE202.out | refine below_set ?_ GE214.out | refine below_set ?_ GE220.out) | exact HB.out)⟩
          ·replace c37 := Bool.eq_false_iff.mpr c37
           subst c37
           have H1 : (maquettelaw05_PrefixText.l0 k2 y210 (y210.length : Int) (wrap64 (x31_2 + 1))) = some r := by rw [if_neg (show ¬ (false = true) by decide)] at H; exact H
           clear H
           have H := H1
           clear H1
           have H' := Aside0.mk H
           clear H
           have p213 : 0 ≤ (x31_2 : Int) := of_decide_eq_true (by first | (with_reducible assumption) | assumption)
           have q213 : x31_2 < (y210.length : Int) := of_decide_eq_true (by first | (with_reducible assumption) | assumption)
           obtain ⟨ad213, e213, hx213_0, hx213_1⟩ := at_T24 (Kd.R_reads' HO_29.out).2.2 x31_2 p213 q213
           cases e213
           replace p213 := eq_true p213
           replace q213 := eq_true q213
           go_wp2_with (first | ((with_reducible refine gate_dst (N := 6) rfl ?_); refine bx 6 (cs := #[.int .u32 0, .int .i64 0]) (t := 24) (h := ?_); intro gb214 hg w105 hbox hb; have BK214 := Aside0.mk hbox; have GW214 : Aside0 (w.heap.size ≤ gb214) := bge hg; have GE214 : Aside0 (w.heap.size ≤ gb214) := bge hg; have NB202_214 := bne BK202 hg; have NB214_202 := bnf BK202 hg; replace HO_29 := Aside0.mk (Kd.R_below (Kd.R_elderB (kR HO_29) gb214 (Nat.le_of_eq hg.symm)) hb); replace BK202 := bkb BK202 hb; replace HB := bst hb; clear hb hbox hg; have hnb106 := NB214_202.out; have hnc106 := NB202_214.out; obtain ⟨hcz107_0, hcz107_1, hfz107_0, hfz107_1⟩ := bc2 BK214) | ((with_reducible refine gate_dst (N := 36) rfl ?_); refine gl (some 36) Tryd.func17 #[.agg #[.int .u32 ((rd_T24 y210 x31_2).f0), .int .i64 ((rd_T24 y210 x31_2).f1)]] ?_; (with_reducible refine (maquettelaw05_may.calls k2 ((rd_T24 y210 x31_2).f0) ((rd_T24 y210 x31_2).f1) false _ A36.out).mono ?_); rintro e w108 ⟨rfl, hb⟩; refine ⟨_, rfl, ?_⟩; replace HO_29 := Aside0.mk (Kd.R_below (by (with_reducible repeat (first | apply Kd.R_alloc | apply Kd.R_drewN | apply Kd.R_drew)); exact (Kd.R_mono (Kd.R_far (p := ⟨gb214, 1, none⟩) (Kd.R_far (p := ⟨gb214, 0, none⟩) (Kd.R_mono HO_29.out (fun k_ hk => (⟨hk, hk.2⟩ : _ ∧ k_ ≠ gb214))) (fun _ hk => hk.2) (.int .u32 ((rd_T24 y210 x31_2).f0))) (fun _ hk => hk.2) (.int .i64 ((rd_T24 y210 x31_2).f1))) (fun _ h_ => h_.1))) hb); replace BK202 := bkb BK202 hb; replace BK214 := Aside0.mk (blk_below (g := gb214) (o := .cells #[.int .u32 ((rd_T24 y210 x31_2).f0), .int .i64 ((rd_T24 y210 x31_2).f1)] 24 (0, 0)) (bkp BK214) hb); replace HB := bst hb; (try clear hb); (try clear hb2); (try clear hk); (try clear hi)))
           go_roundg k2
           case measure => have := HJ4.out; have := HK2.out; omega
           case rel => exact ⟨(wrap64 (x31_2 + 1)), (by first | rfl | (simp; done) | (simp [*]; done)), H', ⟨by have := HJ4.out; have := HK2.out; omega⟩, ⟨by (with_reducible repeat (first | apply Kd.R_alloc | apply Kd.R_drewN | apply Kd.R_drew)); exact Kd.R_mono HO_29.out (fun _ hk => hk.1)⟩, ⟨bkq BK202⟩, ⟨by repeat (first | (with_reducible first | exact HB.out | apply below_alloc | apply pw_below_drewN | apply below_drew1 | refine below_set ?_ GE202.out | refine below_set ?_ GE214.out) | exact HB.out)⟩⟩
         ·rw [if_neg c35] at H
          exact absurd H (by simp)
        ·rw [if_neg c34] at H
         exact absurd H (by simp)
       ·rw [if_neg c33] at H
        have c33b0 : decide (x31_2 < (y210.length : Int)) = false := decide_eq_false c33
        clear c33
        obtain rfl := Option.some.inj H
        go_wp2
        go_ret
        exact ⟨by first | rfl | (simp [errW_none, errW_some] <;> rfl) | (simp [*, errW_none, errW_some] <;> rfl), by repeat (first | (with_reducible first | exact HB.out | apply below_alloc | apply pw_below_drewN | apply below_drew1 | refine below_set ?_ GE202.out) | exact HB.out)⟩
 ·replace c4 := Bool.eq_false_iff.mpr c4
  subst c4
  have H1 : (some false) = some r := by rw [if_neg (show ¬ (false = true) by decide)] at H; exact H
  clear H
  have H := H1
  clear H1
  obtain rfl := Option.some.inj H
  go_enter Tryd.func3, Tryd.ntmps3
  go_wp2_with (first | ((with_reducible refine gate_dst (N := 2) rfl ?_); refine bx 2 (cs := #[.int .u32 a0_0, .int .i64 a0_1]) (t := 24) (h := ?_); intro gb202 hg w109 hbox hb; have BK202 := Aside0.mk hbox; have GW202 : Aside0 (w.heap.size ≤ gb202) := bge hg; have GE202 : Aside0 (w.heap.size ≤ gb202) := bge hg; replace HB := bst hb; clear hb hbox hg) | ((with_reducible refine gate_dst (N := 9) rfl ?_); refine gl (some 9) Tryd.func15 #[] ?_; (with_reducible refine (maquettelaw05_awake.calls k  false _ A3.out (by with_reducible first | exact hInv | exact Go.Proofs.YtkbjjamaneiijaaDoor.Inv.Inv.below hInv HB.out | exact Go.Proofs.YtkbjjamaneiijaaDoor.Inv.Inv.below hInv bel | (repeat (first | exact hInv | exact Go.Proofs.YtkbjjamaneiijaaDoor.Inv.Inv.below hInv HB.out | exact Go.Proofs.YtkbjjamaneiijaaDoor.Inv.Inv.below hInv bel | apply Go.Proofs.YtkbjjamaneiijaaDoor.Inv.Inv.alloc | apply Go.Proofs.YtkbjjamaneiijaaDoor.Inv.Inv.drewN | apply Go.Proofs.YtkbjjamaneiijaaDoor.Inv.Inv.drew)))).mono ?_); rintro e w110 ⟨rfl, hb⟩; refine ⟨_, rfl, ?_⟩; replace BK202 := bkb BK202 hb; replace HB := bst hb; (try clear hb); (try clear hb2); (try clear hk); (try clear hi)))
  go_ret
  exact ⟨by first | rfl | (simp [errW_none, errW_some] <;> rfl) | (simp [*, errW_none, errW_some] <;> rfl), by repeat (first | (with_reducible first | exact HB.out | apply below_alloc | apply pw_below_drewN | apply below_drew1 | refine below_set ?_ GE202.out) | exact HB.out)⟩

end Go.Proofs.YtkbjjamaneiijaaDoor.PPre
