-- Written by wip/xprint.py of this work: the printer of the kit, with contracts of this work beside it, shortened.
import Derived.Test.YtkbjjamaneiijaaDoorShort
import Derived.Test.YtkbjjamaneiijaaDoorPPrex0
import Derived.Test.YtkbjjamaneiijaaDoorPPrex2
import Derived.Test.YtkbjjamaneiijaaDoorPPrex3
namespace Go.Proofs.YtkbjjamaneiijaaDoor.PPre
open Go.RowKit Go.Proofs.YtkbjjamaneiijaaDoor.Short Go.Proofs.YtkbjjamaneiijaaDoorW.PrintWords Go.Proofs.YtkbjjamaneiijaaDoorW.PrintLast Go.Proofs.YtkbjjamaneiijaaDoorW.PrintMore
attribute [local go_sem] max2_int min2_int max_two min_two max_three min_three max_four min_four   -- for this text's walks alone
set_option linter.unusedVariables false
set_option linter.unusedSimpArgs false

/-! ### prefix_Covers: function 24 -/
def prefix_Covers.f (a0_0 : Int) (a0_1 : Int) (a1_0 : Int) (a1_1 : Int) : Option (Bool) := (prefix_May.f a0_0 a0_1).bind fun t138 => (if t138 = true then ((prefix_May.f a1_0 a1_1).bind fun t139 => (if t139 = true then (if a0_1 ≤ a1_1 then ((prefix_mask.f a0_1).bind fun t140 => (some ((Go.bits .and .u32 a1_0 t140) == a0_0))) else (some false)) else (some false))) else (some false))
def prefix_Covers.T1 : Bool × List (List Nat × List Nat) := (true, [([], []), ([0], [0]), ([1, 1], [1]), ([2], [2]), ([3, 2, 2], [2, 3]), ([2, 4], [2, 4]), ([5, 4], [5]), ([6], [6]), ([7, 6], [6, 7]), ([6], [6]), ([9, 6], [6, 9]), ([8, 10, 6], [6, 8, 10]), ([6, 11], [6, 11]), ([12, 6], [12]), ([13], [13]), ([14, 13], [13, 14]), ([13], [13]), ([16, 13], [13, 16]), ([17, 13, 13], [13, 17]), ([15, 18, 13], [13, 15, 18]), ([13], [13]), ([20, 13], [13, 20]), ([19, 21, 13], [13, 19, 21]), ([13, 22], [13, 22]), ([23, 18, 0, 1, 2, 3, 4, 5, 6, 7, 8, 9, 10, 11, 12, 13, 14, 15, 16, 17, 18, 19, 20, 21, 22, 23], [23])])
def prefix_Covers.B1 : List Nat := [0, 1, 3, 7, 15, 31, 63, 127, 255, 127, 639, 2047, 4095, 8191, 16383, 32767, 16383, 81919, 212991, 524287, 16383, 1064959, 4194303, 8388607, 16777215]
theorem prefix_Covers.tab1 : rtab .any (opsOf Tryd.f24 1) = prefix_Covers.T1 := by kernel_rfl
theorem prefix_Covers.bits1 : waitsOk prefix_Covers.T1.2 prefix_Covers.B1 = true := by kernel_rfl
set_option maxHeartbeats 8000000 in
set_option maxRecDepth 100000 in
theorem prefix_Covers.calls (a0_0 : Int) (a0_1 : Int) (a1_0 : Int) (a1_1 : Int) (r : Bool) (w : World) (h : prefix_Covers.f a0_0 a0_1 a1_0 a1_1 = some r) :
  Calls Tryd.prog 24 #[.agg #[.int .u32 a0_0, .int .i64 a0_1], .agg #[.int .u32 a1_0, .int .i64 a1_1]] w fun e w' => e = .returned (.bool r) ∧ Below w.heap.size w w' := by
 have hu24 := Tryd.underlying24
 have HB := Aside0.mk (Below.refl w.heap.size w)
 have H : ((prefix_May.f a0_0 a0_1).bind fun t138 => (if t138 = true then ((prefix_May.f a1_0 a1_1).bind fun t139 => (if t139 = true then (if a0_1 ≤ a1_1 then ((prefix_mask.f a0_1).bind fun t140 => (some ((Go.bits .and .u32 a1_0 t140) == a0_0))) else (some false)) else (some false))) else (some false))) = some r := h
 clear h
 replace H := Option.bind_eq_some_iff.mp H
 obtain ⟨t138, A30, H⟩ := H
 replace H : (if t138 = true then ((prefix_May.f a1_0 a1_1).bind fun t139 => (if t139 = true then (if a0_1 ≤ a1_1 then ((prefix_mask.f a0_1).bind fun t140 => (some ((Go.bits .and .u32 a1_0 t140) == a0_0))) else (some false)) else (some false))) else (some false)) = some r := H
 have A3 := Aside0.mk A30
 clear A30
 by_cases c4 : t138 = true
 ·subst c4
  have H1 : ((prefix_May.f a1_0 a1_1).bind fun t139 => (if t139 = true then (if a0_1 ≤ a1_1 then ((prefix_mask.f a0_1).bind fun t140 => (some ((Go.bits .and .u32 a1_0 t140) == a0_0))) else (some false)) else (some false))) = some r := by rw [if_pos rfl] at H; exact H
  clear H
  have H := H1
  clear H1
  replace H := Option.bind_eq_some_iff.mp H
  obtain ⟨t139, A50, H⟩ := H
  replace H : (if t139 = true then (if a0_1 ≤ a1_1 then ((prefix_mask.f a0_1).bind fun t140 => (some ((Go.bits .and .u32 a1_0 t140) == a0_0))) else (some false)) else (some false)) = some r := H
  have A5 := Aside0.mk A50
  clear A50
  by_cases c6 : t139 = true
  ·subst c6
   have H1 : (if a0_1 ≤ a1_1 then ((prefix_mask.f a0_1).bind fun t140 => (some ((Go.bits .and .u32 a1_0 t140) == a0_0))) else (some false)) = some r := by rw [if_pos rfl] at H; exact H
   clear H
   have H := H1
   clear H1
   by_cases c7 : a0_1 ≤ a1_1
   ·rw [if_pos c7] at H
    have c7b0 : decide (a0_1 ≤ a1_1) = true := decide_eq_true c7
    clear c7
    replace H := Option.bind_eq_some_iff.mp H
    obtain ⟨t140, A80, H⟩ := H
    replace H : (some ((Go.bits .and .u32 a1_0 t140) == a0_0)) = some r := H
    have A8 := Aside0.mk A80
    clear A80
    obtain rfl := Option.some.inj H
    go_enter Tryd.func24, Tryd.ntmps24
    try go_wp2_with (first | ((with_reducible refine gate_dst (N := 2) rfl ?_); refine bx 2 (cs := #[.int .u32 a0_0, .int .i64 a0_1]) (t := 24) (h := ?_); intro gb136 hg w9 hbox hb; have BK136 := Aside0.mk hbox; have GW136 : Aside0 (w.heap.size ≤ gb136) := bge hg; have GE136 : Aside0 (w.heap.size ≤ gb136) := bge hg; replace HB := bst hb; clear hb hbox hg) | ((with_reducible refine gate_dst (N := 3) rfl ?_); refine bx 3 (cs := #[.int .u32 a1_0, .int .i64 a1_1]) (t := 24) (h := ?_); intro gb137 hg w10 hbox hb; have BK137 := Aside0.mk hbox; have GW137 : Aside0 (w.heap.size ≤ gb137) := bge hg; have GE137 : Aside0 (w.heap.size ≤ gb137) := bge hg; have NB136_137 := bne BK136 hg; have NB137_136 := bnf BK136 hg; replace BK136 := bkb BK136 hb; replace HB := bst hb; clear hb hbox hg))
    replace BK136 := Aside0.mk (blk_drew BK136.out)
    replace BK137 := Aside0.mk (blk_drew BK137.out)
    replace HB := Aside0.mk (below_drew1 HB.out)
    refine start_ (n := 25) (S := fun w' => w'.cell? ⟨gb136, 0, none⟩ = some (.int .u32 a0_0) ∧ w'.cell? ⟨gb136, 1, none⟩ = some (.int .i64 a0_1) ∧ w'.cell? ⟨gb137, 0, none⟩ = some (.int .u32 a1_0) ∧ w'.cell? ⟨gb137, 1, none⟩ = some (.int .i64 a1_1)) (ds := []) #[false, false, false, false, false, false, false, false, false, false, false, false, false, false, false, false, false, false, false, false, false, false, false, false, false] (by kernel_rfl) rfl rfl ⟨(blk_cell BK136.out 0).trans rfl, (blk_cell BK136.out 1).trans rfl, (blk_cell BK137.out 0).trans rfl, (blk_cell BK137.out 1).trans rfl⟩ (fun hHeld => ?_); refine with_tabW prefix_Covers.tab1 prefix_Covers.bits1 (fun HT_ HW_ => ?_)
    generalize w10.drew = w11 at BK136 BK137 HB hHeld ⊢
    refine tk HT_ HW_ 0 (some 5) (mk 25 1) hHeld ?_
    refine on HT_ 1 (some 6) (mk 25 3) fun K hK => ?_
    refine go1 Tryd.func16 #[.agg #[.int .u32 a0_0, .int .i64 a0_1]] ?_
    with_reducible refine (prefix_May.calls a0_0 a0_1 true _ A3.out).mono ?_
    rintro e w12 ⟨rfl, hb⟩
    refine ⟨_, rfl, ?_⟩
    replace BK136 := bkb BK136 hb
    replace BK137 := bkb BK137 hb
    replace HB := bst hb
    (try clear hb)
    (try clear hb2)
    (try clear hk)
    (try clear hi)
    refine hK.out _ _ ⟨(blk_cell BK136.out 0).trans rfl, (blk_cell BK136.out 1).trans rfl, (blk_cell BK137.out 0).trans rfl, (blk_cell BK137.out 1).trans rfl⟩ (fun hHeld => ?_)
    clear hK K
    refine nm (some 6) ?_
    refine pu HT_ 2 (some 7) (mk 25 7) ?_
    refine tk HT_ HW_ 3 (some 8) (mk 25 15) hHeld ?_
    refine on HT_ 4 (some 9) (mk 25 31) fun K hK => ?_
    refine go1 Tryd.func16 #[.agg #[.int .u32 a1_0, .int .i64 a1_1]] ?_
    with_reducible refine (prefix_May.calls a1_0 a1_1 true _ A5.out).mono ?_
    rintro e w13 ⟨rfl, hb⟩
    refine ⟨_, rfl, ?_⟩
    replace BK136 := bkb BK136 hb
    replace BK137 := bkb BK137 hb
    replace HB := bst hb
    (try clear hb)
    (try clear hb2)
    (try clear hk)
    (try clear hi)
    refine hK.out _ _ ⟨(blk_cell BK136.out 0).trans rfl, (blk_cell BK136.out 1).trans rfl, (blk_cell BK137.out 0).trans rfl, (blk_cell BK137.out 1).trans rfl⟩ (fun hHeld => ?_)
    clear hK K
    refine nm (some 9) ?_
    refine pu HT_ 5 (some 10) (mk 25 63) ?_
    refine pu HT_ 6 (some 11) (mk 25 127) ?_
    refine pu HT_ 7 (some 12) (mk 25 255) ?_
    refine pu HT_ 9 (some 14) (mk 25 767) ?_
    refine tk HT_ HW_ 8 (some 13) (mk 25 1023) hHeld ?_
    refine tk HT_ HW_ 10 (some 15) (mk 25 2047) hHeld ?_
    refine pu HT_ 11 (some 16) (mk 25 4095) ?_
    refine pu HT_ 12 (some 17) (mk 25 8191) ?_
    refine pu HT_ 13 (some 18) (mk 25 16383) ?_
    refine pu HT_ 14 (some 19) (mk 25 32767) ?_
    refine pu HT_ 16 (some 21) (mk 25 98303) ?_
    refine pu HT_ 20 (some 25) (mk 25 1146879) ?_
    refine tk HT_ HW_ 15 (some 20) (mk 25 1179647) hHeld ?_
    refine tk HT_ HW_ 17 (some 22) (mk 25 1310719) hHeld ?_
    refine tk HT_ HW_ 21 (some 26) (mk 25 3407871) hHeld ?_
    refine on HT_ 18 (some 23) (mk 25 3670015) fun K hK => ?_
    refine go1 Tryd.func34 #[.int .i64 a0_1] ?_
    with_reducible refine (prefix_mask.calls a0_1 t140 _ A8.out).mono ?_
    rintro e w14 ⟨rfl, hb⟩
    refine ⟨_, rfl, ?_⟩
    replace BK136 := bkb BK136 hb
    replace BK137 := bkb BK137 hb
    replace HB := bst hb
    (try clear hb)
    (try clear hb2)
    (try clear hk)
    (try clear hi)
    refine hK.out _ _ ⟨(blk_cell BK136.out 0).trans rfl, (blk_cell BK136.out 1).trans rfl, (blk_cell BK137.out 0).trans rfl, (blk_cell BK137.out 1).trans rfl⟩ (fun hHeld => ?_)
    clear hK K
    refine nm (some 23) ?_
    refine pu HT_ 19 (some 24) (mk 25 4194303) ?_
    refine pu HT_ 22 (some 27) (mk 25 8388607) ?_
    refine pu HT_ 23 (some 28) (mk 25 16777215) ?_
    refine pu HT_ 24 (some 4) (mk 25 33554431) ?_
    refine done_ (done_of HT_.out (by kernel_rfl)) ?_
    try go_wp2
    go_ret
    exact ⟨by first | rfl | (simp [errW_none, errW_some] <;> rfl) | (simp [*, errW_none, errW_some] <;> rfl), by repeat (first | (with_reducible first | exact HB.out | apply below_alloc | apply pw_below_drewN | apply below_drew1 | refine below_set ?_ GE136.out | refine below_set ?_ GE137.out) | exact HB.out)⟩
   ·rw [if_neg c7] at H
    have c7b0 : decide (a0_1 ≤ a1_1) = false := decide_eq_false c7
    clear c7
    obtain rfl := Option.some.inj H
    go_enter Tryd.func24, Tryd.ntmps24
    try go_wp2_with (first | ((with_reducible refine gate_dst (N := 2) rfl ?_); refine bx 2 (cs := #[.int .u32 a0_0, .int .i64 a0_1]) (t := 24) (h := ?_); intro gb136 hg w15 hbox hb; have BK136 := Aside0.mk hbox; have GW136 : Aside0 (w.heap.size ≤ gb136) := bge hg; have GE136 : Aside0 (w.heap.size ≤ gb136) := bge hg; replace HB := bst hb; clear hb hbox hg) | ((with_reducible refine gate_dst (N := 3) rfl ?_); refine bx 3 (cs := #[.int .u32 a1_0, .int .i64 a1_1]) (t := 24) (h := ?_); intro gb137 hg w16 hbox hb; have BK137 := Aside0.mk hbox; have GW137 : Aside0 (w.heap.size ≤ gb137) := bge hg; have GE137 : Aside0 (w.heap.size ≤ gb137) := bge hg; have NB136_137 := bne BK136 hg; have NB137_136 := bnf BK136 hg; replace BK136 := bkb BK136 hb; replace HB := bst hb; clear hb hbox hg))
    replace BK136 := Aside0.mk (blk_drew BK136.out)
    replace BK137 := Aside0.mk (blk_drew BK137.out)
    replace HB := Aside0.mk (below_drew1 HB.out)
    refine start_ (n := 25) (S := fun w' => w'.cell? ⟨gb136, 0, none⟩ = some (.int .u32 a0_0) ∧ w'.cell? ⟨gb136, 1, none⟩ = some (.int .i64 a0_1) ∧ w'.cell? ⟨gb137, 0, none⟩ = some (.int .u32 a1_0) ∧ w'.cell? ⟨gb137, 1, none⟩ = some (.int .i64 a1_1)) (ds := []) #[false, false, false, false, false, false, false, false, false, false, false, false, false, false, false, false, false, false, false, false, false, false, false, false, false] (by kernel_rfl) rfl rfl ⟨(blk_cell BK136.out 0).trans rfl, (blk_cell BK136.out 1).trans rfl, (blk_cell BK137.out 0).trans rfl, (blk_cell BK137.out 1).trans rfl⟩ (fun hHeld => ?_); refine with_tabW prefix_Covers.tab1 prefix_Covers.bits1 (fun HT_ HW_ => ?_)
    generalize w16.drew = w17 at BK136 BK137 HB hHeld ⊢
    refine tk HT_ HW_ 0 (some 5) (mk 25 1) hHeld ?_
    refine on HT_ 1 (some 6) (mk 25 3) fun K hK => ?_
    refine go1 Tryd.func16 #[.agg #[.int .u32 a0_0, .int .i64 a0_1]] ?_
    with_reducible refine (prefix_May.calls a0_0 a0_1 true _ A3.out).mono ?_
    rintro e w18 ⟨rfl, hb⟩
    refine ⟨_, rfl, ?_⟩
    replace BK136 := bkb BK136 hb
    replace BK137 := bkb BK137 hb
    replace HB := bst hb
    (try clear hb)
    (try clear hb2)
    (try clear hk)
    (try clear hi)
    refine hK.out _ _ ⟨(blk_cell BK136.out 0).trans rfl, (blk_cell BK136.out 1).trans rfl, (blk_cell BK137.out 0).trans rfl, (blk_cell BK137.out 1).trans rfl⟩ (fun hHeld => ?_)
    clear hK K
    refine nm (some 6) ?_
    refine pu HT_ 2 (some 7) (mk 25 7) ?_
    refine tk HT_ HW_ 3 (some 8) (mk 25 15) hHeld ?_
    refine on HT_ 4 (some 9) (mk 25 31) fun K hK => ?_
    refine go1 Tryd.func16 #[.agg #[.int .u32 a1_0, .int .i64 a1_1]] ?_
    with_reducible refine (prefix_May.calls a1_0 a1_1 true _ A5.out).mono ?_
    rintro e w19 ⟨rfl, hb⟩
    refine ⟨_, rfl, ?_⟩
    replace BK136 := bkb BK136 hb
    replace BK137 := bkb BK137 hb
    replace HB := bst hb
    (try clear hb)
    (try clear hb2)
    (try clear hk)
    (try clear hi)
    refine hK.out _ _ ⟨(blk_cell BK136.out 0).trans rfl, (blk_cell BK136.out 1).trans rfl, (blk_cell BK137.out 0).trans rfl, (blk_cell BK137.out 1).trans rfl⟩ (fun hHeld => ?_)
    clear hK K
    refine nm (some 9) ?_
    refine pu HT_ 5 (some 10) (mk 25 63) ?_
    refine pu HT_ 6 (some 11) (mk 25 127) ?_
    refine pu HT_ 7 (some 12) (mk 25 255) ?_
    refine pu HT_ 9 (some 14) (mk 25 767) ?_
    refine tk HT_ HW_ 8 (some 13) (mk 25 1023) hHeld ?_
    refine tk HT_ HW_ 10 (some 15) (mk 25 2047) hHeld ?_
    refine pu HT_ 11 (some 16) (mk 25 4095) ?_
    refine pu HT_ 12 (some 17) (mk 25 8191) ?_
    refine pu HT_ 13 (some 18) (mk 25 16383) ?_
    refine pun HT_ 14 (some 19) (mk 25 32767) ?_
    refine pun HT_ 15 (some 20) (mk 25 65535) ?_
    refine pun HT_ 16 (some 21) (mk 25 131071) ?_
    refine pun HT_ 17 (some 22) (mk 25 262143) ?_
    refine pun HT_ 18 (some 23) (mk 25 524287) ?_
    refine pun HT_ 19 (some 24) (mk 25 1048575) ?_
    refine pun HT_ 20 (some 25) (mk 25 2097151) ?_
    refine pun HT_ 21 (some 26) (mk 25 4194303) ?_
    refine pun HT_ 22 (some 27) (mk 25 8388607) ?_
    refine pu HT_ 23 (some 28) (mk 25 16777215) ?_
    refine pu HT_ 24 (some 4) (mk 25 33554431) ?_
    refine done_ (done_of HT_.out (by kernel_rfl)) ?_
    try go_wp2
    go_ret
    exact ⟨by first | rfl | (simp [errW_none, errW_some] <;> rfl) | (simp [*, errW_none, errW_some] <;> rfl), by repeat (first | (with_reducible first | exact HB.out | apply below_alloc | apply pw_below_drewN | apply below_drew1 | refine below_set ?_ GE136.out | refine below_set ?_ GE137.out) | exact HB.out)⟩
  ·replace c6 := Bool.eq_false_iff.mpr c6
   subst c6
   have H1 : (some false) = some r := by rw [if_neg (show ¬ (false = true) by decide)] at H; exact H
   clear H
   have H := H1
   clear H1
   obtain rfl := Option.some.inj H
   go_enter Tryd.func24, Tryd.ntmps24
   try go_wp2_with (first | ((with_reducible refine gate_dst (N := 2) rfl ?_); refine bx 2 (cs := #[.int .u32 a0_0, .int .i64 a0_1]) (t := 24) (h := ?_); intro gb136 hg w20 hbox hb; have BK136 := Aside0.mk hbox; have GW136 : Aside0 (w.heap.size ≤ gb136) := bge hg; have GE136 : Aside0 (w.heap.size ≤ gb136) := bge hg; replace HB := bst hb; clear hb hbox hg) | ((with_reducible refine gate_dst (N := 3) rfl ?_); refine bx 3 (cs := #[.int .u32 a1_0, .int .i64 a1_1]) (t := 24) (h := ?_); intro gb137 hg w21 hbox hb; have BK137 := Aside0.mk hbox; have GW137 : Aside0 (w.heap.size ≤ gb137) := bge hg; have GE137 : Aside0 (w.heap.size ≤ gb137) := bge hg; have NB136_137 := bne BK136 hg; have NB137_136 := bnf BK136 hg; replace BK136 := bkb BK136 hb; replace HB := bst hb; clear hb hbox hg))
   replace BK136 := Aside0.mk (blk_drew BK136.out)
   replace BK137 := Aside0.mk (blk_drew BK137.out)
   replace HB := Aside0.mk (below_drew1 HB.out)
   refine start_ (n := 25) (S := fun w' => w'.cell? ⟨gb136, 0, none⟩ = some (.int .u32 a0_0) ∧ w'.cell? ⟨gb136, 1, none⟩ = some (.int .i64 a0_1) ∧ w'.cell? ⟨gb137, 0, none⟩ = some (.int .u32 a1_0) ∧ w'.cell? ⟨gb137, 1, none⟩ = some (.int .i64 a1_1)) (ds := []) #[false, false, false, false, false, false, false, false, false, false, false, false, false, false, false, false, false, false, false, false, false, false, false, false, false] (by kernel_rfl) rfl rfl ⟨(blk_cell BK136.out 0).trans rfl, (blk_cell BK136.out 1).trans rfl, (blk_cell BK137.out 0).trans rfl, (blk_cell BK137.out 1).trans rfl⟩ (fun hHeld => ?_); refine with_tabW prefix_Covers.tab1 prefix_Covers.bits1 (fun HT_ HW_ => ?_)
   generalize w21.drew = w22 at BK136 BK137 HB hHeld ⊢
   refine tk HT_ HW_ 0 (some 5) (mk 25 1) hHeld ?_
   refine on HT_ 1 (some 6) (mk 25 3) fun K hK => ?_
   refine go1 Tryd.func16 #[.agg #[.int .u32 a0_0, .int .i64 a0_1]] ?_
   with_reducible refine (prefix_May.calls a0_0 a0_1 true _ A3.out).mono ?_
   rintro e w23 ⟨rfl, hb⟩
   refine ⟨_, rfl, ?_⟩
   replace BK136 := bkb BK136 hb
   replace BK137 := bkb BK137 hb
   replace HB := bst hb
   (try clear hb)
   (try clear hb2)
   (try clear hk)
   (try clear hi)
   refine hK.out _ _ ⟨(blk_cell BK136.out 0).trans rfl, (blk_cell BK136.out 1).trans rfl, (blk_cell BK137.out 0).trans rfl, (blk_cell BK137.out 1).trans rfl⟩ (fun hHeld => ?_)
   clear hK K
   refine nm (some 6) ?_
   refine pu HT_ 2 (some 7) (mk 25 7) ?_
   refine tk HT_ HW_ 3 (some 8) (mk 25 15) hHeld ?_
   refine on HT_ 4 (some 9) (mk 25 31) fun K hK => ?_
   refine go1 Tryd.func16 #[.agg #[.int .u32 a1_0, .int .i64 a1_1]] ?_
   with_reducible refine (prefix_May.calls a1_0 a1_1 false _ A5.out).mono ?_
   rintro e w24 ⟨rfl, hb⟩
   refine ⟨_, rfl, ?_⟩
   replace BK136 := bkb BK136 hb
   replace BK137 := bkb BK137 hb
   replace HB := bst hb
   (try clear hb)
   (try clear hb2)
   (try clear hk)
   (try clear hi)
   refine hK.out _ _ ⟨(blk_cell BK136.out 0).trans rfl, (blk_cell BK136.out 1).trans rfl, (blk_cell BK137.out 0).trans rfl, (blk_cell BK137.out 1).trans rfl⟩ (fun hHeld => ?_)
   clear hK K
   refine nm (some 9) ?_
   refine pu HT_ 5 (some 10) (mk 25 63) ?_
   refine pu HT_ 6 (some 11) (mk 25 127) ?_
   refine pun HT_ 7 (some 12) (mk 25 255) ?_
   refine pun HT_ 8 (some 13) (mk 25 511) ?_
   refine pun HT_ 9 (some 14) (mk 25 1023) ?_
   refine pun HT_ 10 (some 15) (mk 25 2047) ?_
   refine pun HT_ 11 (some 16) (mk 25 4095) ?_
   refine pu HT_ 12 (some 17) (mk 25 8191) ?_
   refine pu HT_ 13 (some 18) (mk 25 16383) ?_
   refine pun HT_ 14 (some 19) (mk 25 32767) ?_
   refine pun HT_ 15 (some 20) (mk 25 65535) ?_
   refine pun HT_ 16 (some 21) (mk 25 131071) ?_
   refine pun HT_ 17 (some 22) (mk 25 262143) ?_
   refine pun HT_ 18 (some 23) (mk 25 524287) ?_
   refine pun HT_ 19 (some 24) (mk 25 1048575) ?_
   refine pun HT_ 20 (some 25) (mk 25 2097151) ?_
   refine pun HT_ 21 (some 26) (mk 25 4194303) ?_
   refine pun HT_ 22 (some 27) (mk 25 8388607) ?_
   refine pu HT_ 23 (some 28) (mk 25 16777215) ?_
   refine pu HT_ 24 (some 4) (mk 25 33554431) ?_
   refine done_ (done_of HT_.out (by kernel_rfl)) ?_
   try go_wp2
   go_ret
   exact ⟨by first | rfl | (simp [errW_none, errW_some] <;> rfl) | (simp [*, errW_none, errW_some] <;> rfl), by repeat (first | (with_reducible first | exact HB.out | apply below_alloc | apply pw_below_drewN | apply below_drew1 | refine below_set ?_ GE136.out | refine below_set ?_ GE137.out) | exact HB.out)⟩
 ·replace c4 := Bool.eq_false_iff.mpr c4
  subst c4
  have H1 : (some false) = some r := by rw [if_neg (show ¬ (false = true) by decide)] at H; exact H
  clear H
  have H := H1
  clear H1
  obtain rfl := Option.some.inj H
  go_enter Tryd.func24, Tryd.ntmps24
  try go_wp2_with (first | ((with_reducible refine gate_dst (N := 2) rfl ?_); refine bx 2 (cs := #[.int .u32 a0_0, .int .i64 a0_1]) (t := 24) (h := ?_); intro gb136 hg w25 hbox hb; have BK136 := Aside0.mk hbox; have GW136 : Aside0 (w.heap.size ≤ gb136) := bge hg; have GE136 : Aside0 (w.heap.size ≤ gb136) := bge hg; replace HB := bst hb; clear hb hbox hg) | ((with_reducible refine gate_dst (N := 3) rfl ?_); refine bx 3 (cs := #[.int .u32 a1_0, .int .i64 a1_1]) (t := 24) (h := ?_); intro gb137 hg w26 hbox hb; have BK137 := Aside0.mk hbox; have GW137 : Aside0 (w.heap.size ≤ gb137) := bge hg; have GE137 : Aside0 (w.heap.size ≤ gb137) := bge hg; have NB136_137 := bne BK136 hg; have NB137_136 := bnf BK136 hg; replace BK136 := bkb BK136 hb; replace HB := bst hb; clear hb hbox hg))
  replace BK136 := Aside0.mk (blk_drew BK136.out)
  replace BK137 := Aside0.mk (blk_drew BK137.out)
  replace HB := Aside0.mk (below_drew1 HB.out)
  refine start_ (n := 25) (S := fun w' => w'.cell? ⟨gb136, 0, none⟩ = some (.int .u32 a0_0) ∧ w'.cell? ⟨gb136, 1, none⟩ = some (.int .i64 a0_1)) (ds := []) #[false, false, false, false, false, false, false, false, false, false, false, false, false, false, false, false, false, false, false, false, false, false, false, false, false] (by kernel_rfl) rfl rfl ⟨(blk_cell BK136.out 0).trans rfl, (blk_cell BK136.out 1).trans rfl⟩ (fun hHeld => ?_); refine with_tabW prefix_Covers.tab1 prefix_Covers.bits1 (fun HT_ HW_ => ?_)
  generalize w26.drew = w27 at BK136 BK137 HB hHeld ⊢
  refine tk HT_ HW_ 0 (some 5) (mk 25 1) hHeld ?_
  refine on HT_ 1 (some 6) (mk 25 3) fun K hK => ?_
  refine go1 Tryd.func16 #[.agg #[.int .u32 a0_0, .int .i64 a0_1]] ?_
  with_reducible refine (prefix_May.calls a0_0 a0_1 false _ A3.out).mono ?_
  rintro e w28 ⟨rfl, hb⟩
  refine ⟨_, rfl, ?_⟩
  replace BK136 := bkb BK136 hb
  replace BK137 := bkb BK137 hb
  replace HB := bst hb
  (try clear hb)
  (try clear hb2)
  (try clear hk)
  (try clear hi)
  refine hK.out _ _ ⟨(blk_cell BK136.out 0).trans rfl, (blk_cell BK136.out 1).trans rfl⟩ (fun hHeld => ?_)
  clear hK K
  refine nm (some 6) ?_
  refine pu HT_ 2 (some 7) (mk 25 7) ?_
  refine pun HT_ 3 (some 8) (mk 25 15) ?_
  refine pun HT_ 4 (some 9) (mk 25 31) ?_
  refine pu HT_ 5 (some 10) (mk 25 63) ?_
  refine pu HT_ 6 (some 11) (mk 25 127) ?_
  refine pun HT_ 7 (some 12) (mk 25 255) ?_
  refine pun HT_ 8 (some 13) (mk 25 511) ?_
  refine pun HT_ 9 (some 14) (mk 25 1023) ?_
  refine pun HT_ 10 (some 15) (mk 25 2047) ?_
  refine pun HT_ 11 (some 16) (mk 25 4095) ?_
  refine pu HT_ 12 (some 17) (mk 25 8191) ?_
  refine pu HT_ 13 (some 18) (mk 25 16383) ?_
  refine pun HT_ 14 (some 19) (mk 25 32767) ?_
  refine pun HT_ 15 (some 20) (mk 25 65535) ?_
  refine pun HT_ 16 (some 21) (mk 25 131071) ?_
  refine pun HT_ 17 (some 22) (mk 25 262143) ?_
  refine pun HT_ 18 (some 23) (mk 25 524287) ?_
  refine pun HT_ 19 (some 24) (mk 25 1048575) ?_
  refine pun HT_ 20 (some 25) (mk 25 2097151) ?_
  refine pun HT_ 21 (some 26) (mk 25 4194303) ?_
  refine pun HT_ 22 (some 27) (mk 25 8388607) ?_
  refine pu HT_ 23 (some 28) (mk 25 16777215) ?_
  refine pu HT_ 24 (some 4) (mk 25 33554431) ?_
  refine done_ (done_of HT_.out (by kernel_rfl)) ?_
  try go_wp2
  go_ret
  exact ⟨by first | rfl | (simp [errW_none, errW_some] <;> rfl) | (simp [*, errW_none, errW_some] <;> rfl), by repeat (first | (with_reducible first | exact HB.out | apply below_alloc | apply pw_below_drewN | apply below_drew1 | refine below_set ?_ GE136.out | refine below_set ?_ GE137.out) | exact HB.out)⟩

end Go.Proofs.YtkbjjamaneiijaaDoor.PPre
