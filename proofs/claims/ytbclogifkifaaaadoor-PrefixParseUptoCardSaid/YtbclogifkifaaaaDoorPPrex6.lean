-- Written by wip/xprint.py of this work: the printer of the kit, with contracts of this work beside it, shortened.
import Derived.Test.YtbclogifkifaaaaDoorShort
import Derived.Test.YtbclogifkifaaaaDoorPPrex0
import Derived.Test.YtbclogifkifaaaaDoorPPrex5
namespace Go.Proofs.YtbclogifkifaaaaDoor.PPre
open Go.RowKit Go.Proofs.YtbclogifkifaaaaDoor.Short Go.Proofs.YtbclogifkifaaaaDoorW.PrintWords Go.Proofs.YtbclogifkifaaaaDoorW.PrintLast Go.Proofs.YtbclogifkifaaaaDoorW.PrintMore
attribute [local go_sem] max2_int min2_int max_two min_two max_three min_three max_four min_four   -- for this text's walks alone
set_option linter.unusedVariables false
set_option linter.unusedSimpArgs false

/-! ### prefix_May: function 14 -/
def prefix_May.f (a0_0 : Int) (a0_1 : Int) : Option (Bool) := if a0_1 ≥ 0 then (if a0_1 ≤ 32 then ((prefix_mask.f a0_1).bind fun t102 => (some ((Go.bits .andNot .u32 a0_0 t102) == 0))) else (some false)) else (some false)
def prefix_May.T1 : Bool × List (List Nat × List Nat) := (true, [([], []), ([0], [0]), ([1], [1]), ([2], [2]), ([3], [3]), ([4, 3], [3, 4]), ([5, 3], [3, 5]), ([3, 6], [3, 6]), ([7, 3], [7]), ([8], [8]), ([9, 8], [8, 9]), ([8], [8]), ([11, 8], [8, 11]), ([12, 8, 8], [8, 12]), ([10, 13, 8], [8, 10, 13]), ([14, 8], [8, 14]), ([8, 15], [8, 15]), ([16, 13, 0, 1, 2, 3, 4, 5, 6, 7, 8, 9, 10, 11, 12, 13, 14, 15, 16], [16])])
def prefix_May.B1 : List Nat := [0, 1, 3, 7, 15, 31, 63, 127, 255, 511, 1023, 511, 2559, 6655, 16383, 32767, 65535, 131071]
theorem prefix_May.tab1 : rtab .any (opsOf Tryd.f14 1) = prefix_May.T1 := by kernel_rfl
theorem prefix_May.bits1 : waitsOk prefix_May.T1.2 prefix_May.B1 = true := by kernel_rfl
set_option maxHeartbeats 8000000 in
set_option maxRecDepth 100000 in
theorem prefix_May.calls (a0_0 : Int) (a0_1 : Int) (r : Bool) (w : World) (h : prefix_May.f a0_0 a0_1 = some r) :
  Calls Tryd.prog 14 #[.agg #[.int .u32 a0_0, .int .i64 a0_1]] w fun e w' => e = .returned (.bool r) ∧ Below w.heap.size w w' := by
 have hu27 := Tryd.underlying27
 have HB := Aside0.mk (Below.refl w.heap.size w)
 have H : (if a0_1 ≥ 0 then (if a0_1 ≤ 32 then ((prefix_mask.f a0_1).bind fun t102 => (some ((Go.bits .andNot .u32 a0_0 t102) == 0))) else (some false)) else (some false)) = some r := h
 clear h
 by_cases c2 : a0_1 ≥ 0
 ·rw [if_pos c2] at H
  have c2b0 : decide (0 ≤ a0_1) = true := decide_eq_true c2
  clear c2
  by_cases c3 : a0_1 ≤ 32
  ·rw [if_pos c3] at H
   have c3b0 := decide_eq_true c3
   clear c3
   replace H := Option.bind_eq_some_iff.mp H
   obtain ⟨t102, A40, H⟩ := H
   replace H : (some ((Go.bits .andNot .u32 a0_0 t102) == 0)) = some r := H
   have A4 := Aside0.mk A40
   clear A40
   obtain rfl := Option.some.inj H
   go_enter Tryd.func14, Tryd.ntmps14
   try go_wp2_with (first | ((with_reducible refine gate_dst (N := 1) rfl ?_); refine bx 1 (cs := #[.int .u32 a0_0, .int .i64 a0_1]) (t := 27) (h := ?_); intro gb101 hg w5 hbox hb; have BK101 := Aside0.mk hbox; have GW101 : Aside0 (w.heap.size ≤ gb101) := bge hg; have GE101 : Aside0 (w.heap.size ≤ gb101) := bge hg; replace HB := bst hb; clear hb hbox hg))
   replace BK101 := Aside0.mk (blk_drew BK101.out)
   replace HB := Aside0.mk (below_drew1 HB.out)
   refine start_ (n := 18) (S := fun w' => CE2 w' gb101 (.int .u32 a0_0) (.int .i64 a0_1)) (ds := []) #[false, false, false, false, false, false, false, false, false, false, false, false, false, false, false, false, false, false] (by kernel_rfl) rfl rfl (he2 BK101) (fun hHeld => ?_); refine with_tabW prefix_May.tab1 prefix_May.bits1 (fun HT_ HW_ => ?_)
   generalize w5.drew = w6 at BK101 HB hHeld ⊢
   refine pu HT_ 0 (some 3) (mk 18 1) ?_
   refine tk HT_ HW_ 1 (some 4) (mk 18 3) hHeld ?_
   refine pu HT_ 2 (some 5) (mk 18 7) ?_
   refine pu HT_ 3 (some 6) (mk 18 15) ?_
   refine pu HT_ 4 (some 7) (mk 18 31) ?_
   refine tk HT_ HW_ 5 (some 8) (mk 18 63) hHeld ?_
   refine pu HT_ 6 (some 9) (mk 18 127) ?_
   refine pu HT_ 7 (some 10) (mk 18 255) ?_
   refine pu HT_ 8 (some 11) (mk 18 511) ?_
   refine pu HT_ 9 (some 12) (mk 18 1023) ?_
   refine pu HT_ 11 (some 14) (mk 18 3071) ?_
   refine tk HT_ HW_ 10 (some 13) (mk 18 4095) hHeld ?_
   refine tk HT_ HW_ 12 (some 15) (mk 18 8191) hHeld ?_
   refine on HT_ 13 (some 16) (mk 18 16383) fun K hK => ?_
   refine go1 Tryd.func21 #[.int .i64 a0_1] ?_
   with_reducible refine (prefix_mask.calls a0_1 t102 _ A4.out).mono ?_
   rintro e w7 ⟨rfl, hb⟩
   refine ⟨_, rfl, ?_⟩
   replace BK101 := bkb BK101 hb
   replace HB := bst hb
   (try clear hb)
   (try clear hb2)
   (try clear hk)
   (try clear hi)
   refine hK.out _ _ (he2 BK101) (fun hHeld => ?_)
   clear hK K
   refine nm (some 16) ?_
   refine pu HT_ 14 (some 17) (mk 18 32767) ?_
   refine pu HT_ 15 (some 18) (mk 18 65535) ?_
   refine pu HT_ 16 (some 19) (mk 18 131071) ?_
   refine pu HT_ 17 (some 2) (mk 18 262143) ?_
   refine done_ (done_of HT_.out (by kernel_rfl)) ?_
   try go_wp2
   go_ret
   exact ⟨by first | rfl | (simp [errW_none, errW_some] <;> rfl) | (simp [*, errW_none, errW_some] <;> rfl), by repeat (first | (with_reducible first | exact HB.out | apply below_alloc | apply pw_below_drewN | apply below_drew1 | refine below_set ?_ GE101.out) | exact HB.out)⟩
  ·rw [if_neg c3] at H
   have c3b0 := decide_eq_false c3
   clear c3
   obtain rfl := Option.some.inj H
   go_enter Tryd.func14, Tryd.ntmps14
   try go_wp2_with (first | ((with_reducible refine gate_dst (N := 1) rfl ?_); refine bx 1 (cs := #[.int .u32 a0_0, .int .i64 a0_1]) (t := 27) (h := ?_); intro gb101 hg w8 hbox hb; have BK101 := Aside0.mk hbox; have GW101 : Aside0 (w.heap.size ≤ gb101) := bge hg; have GE101 : Aside0 (w.heap.size ≤ gb101) := bge hg; replace HB := bst hb; clear hb hbox hg))
   replace BK101 := Aside0.mk (blk_drew BK101.out)
   replace HB := Aside0.mk (below_drew1 HB.out)
   refine start_ (n := 18) (S := fun w' => CE2 w' gb101 (.int .u32 a0_0) (.int .i64 a0_1)) (ds := []) #[false, false, false, false, false, false, false, false, false, false, false, false, false, false, false, false, false, false] (by kernel_rfl) rfl rfl (he2 BK101) (fun hHeld => ?_); refine with_tabW prefix_May.tab1 prefix_May.bits1 (fun HT_ HW_ => ?_)
   generalize w8.drew = w9 at BK101 HB hHeld ⊢
   refine pu HT_ 0 (some 3) (mk 18 1) ?_
   refine tk HT_ HW_ 1 (some 4) (mk 18 3) hHeld ?_
   refine pu HT_ 2 (some 5) (mk 18 7) ?_
   refine pu HT_ 3 (some 6) (mk 18 15) ?_
   refine pu HT_ 4 (some 7) (mk 18 31) ?_
   refine tk HT_ HW_ 5 (some 8) (mk 18 63) hHeld ?_
   refine pu HT_ 6 (some 9) (mk 18 127) ?_
   refine pu HT_ 7 (some 10) (mk 18 255) ?_
   refine pu HT_ 8 (some 11) (mk 18 511) ?_
   refine pun HT_ 9 (some 12) (mk 18 1023) ?_
   refine pun HT_ 10 (some 13) (mk 18 2047) ?_
   refine pun HT_ 11 (some 14) (mk 18 4095) ?_
   refine pun HT_ 12 (some 15) (mk 18 8191) ?_
   refine pun HT_ 13 (some 16) (mk 18 16383) ?_
   refine pun HT_ 14 (some 17) (mk 18 32767) ?_
   refine pun HT_ 15 (some 18) (mk 18 65535) ?_
   refine pu HT_ 16 (some 19) (mk 18 131071) ?_
   refine pu HT_ 17 (some 2) (mk 18 262143) ?_
   refine done_ (done_of HT_.out (by kernel_rfl)) ?_
   try go_wp2
   go_ret
   exact ⟨by first | rfl | (simp [errW_none, errW_some] <;> rfl) | (simp [*, errW_none, errW_some] <;> rfl), by repeat (first | (with_reducible first | exact HB.out | apply below_alloc | apply pw_below_drewN | apply below_drew1 | refine below_set ?_ GE101.out) | exact HB.out)⟩
 ·rw [if_neg c2] at H
  have c2b0 : decide (0 ≤ a0_1) = false := decide_eq_false c2
  clear c2
  obtain rfl := Option.some.inj H
  go_enter Tryd.func14, Tryd.ntmps14
  try go_wp2_with (first | ((with_reducible refine gate_dst (N := 1) rfl ?_); refine bx 1 (cs := #[.int .u32 a0_0, .int .i64 a0_1]) (t := 27) (h := ?_); intro gb101 hg w10 hbox hb; have BK101 := Aside0.mk hbox; have GW101 : Aside0 (w.heap.size ≤ gb101) := bge hg; have GE101 : Aside0 (w.heap.size ≤ gb101) := bge hg; replace HB := bst hb; clear hb hbox hg))
  replace BK101 := Aside0.mk (blk_drew BK101.out)
  replace HB := Aside0.mk (below_drew1 HB.out)
  refine start_ (n := 18) (S := fun w' => CE2 w' gb101 (.int .u32 a0_0) (.int .i64 a0_1)) (ds := []) #[false, false, false, false, false, false, false, false, false, false, false, false, false, false, false, false, false, false] (by kernel_rfl) rfl rfl (he2 BK101) (fun hHeld => ?_); refine with_tabW prefix_May.tab1 prefix_May.bits1 (fun HT_ HW_ => ?_)
  generalize w10.drew = w11 at BK101 HB hHeld ⊢
  refine pu HT_ 0 (some 3) (mk 18 1) ?_
  refine tk HT_ HW_ 1 (some 4) (mk 18 3) hHeld ?_
  refine pu HT_ 2 (some 5) (mk 18 7) ?_
  refine pu HT_ 3 (some 6) (mk 18 15) ?_
  refine pun HT_ 4 (some 7) (mk 18 31) ?_
  refine pun HT_ 5 (some 8) (mk 18 63) ?_
  refine pun HT_ 6 (some 9) (mk 18 127) ?_
  refine pu HT_ 7 (some 10) (mk 18 255) ?_
  refine pu HT_ 8 (some 11) (mk 18 511) ?_
  refine pun HT_ 9 (some 12) (mk 18 1023) ?_
  refine pun HT_ 10 (some 13) (mk 18 2047) ?_
  refine pun HT_ 11 (some 14) (mk 18 4095) ?_
  refine pun HT_ 12 (some 15) (mk 18 8191) ?_
  refine pun HT_ 13 (some 16) (mk 18 16383) ?_
  refine pun HT_ 14 (some 17) (mk 18 32767) ?_
  refine pun HT_ 15 (some 18) (mk 18 65535) ?_
  refine pu HT_ 16 (some 19) (mk 18 131071) ?_
  refine pu HT_ 17 (some 2) (mk 18 262143) ?_
  refine done_ (done_of HT_.out (by kernel_rfl)) ?_
  try go_wp2
  go_ret
  exact ⟨by first | rfl | (simp [errW_none, errW_some] <;> rfl) | (simp [*, errW_none, errW_some] <;> rfl), by repeat (first | (with_reducible first | exact HB.out | apply below_alloc | apply pw_below_drewN | apply below_drew1 | refine below_set ?_ GE101.out) | exact HB.out)⟩

end Go.Proofs.YtbclogifkifaaaaDoor.PPre
