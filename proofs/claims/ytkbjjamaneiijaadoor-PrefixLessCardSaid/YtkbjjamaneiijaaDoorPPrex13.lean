-- Written by wip/xprint.py of this work: the printer of the kit, with contracts of this work beside it, shortened.
import Derived.Test.YtkbjjamaneiijaaDoorShort
import Derived.Test.YtkbjjamaneiijaaDoorPPrex0
import Derived.Test.YtkbjjamaneiijaaDoorPPrex11
import Derived.Test.YtkbjjamaneiijaaDoorPPrex12
namespace Go.Proofs.YtkbjjamaneiijaaDoor.PPre
open Go.RowKit Go.Proofs.YtkbjjamaneiijaaDoor.Short Go.Proofs.YtkbjjamaneiijaaDoorW.PrintWords Go.Proofs.YtkbjjamaneiijaaDoorW.PrintLast Go.Proofs.YtkbjjamaneiijaaDoorW.PrintMore
attribute [local go_sem] max2_int min2_int max_two min_two max_three min_three max_four min_four   -- for this text's walks alone
set_option linter.unusedVariables false
set_option linter.unusedSimpArgs false

/-! ### maquettelaw05_PrefixLess: function 6 -/
def maquettelaw05_PrefixLess.f (k : Nat) (a0_0 : Int) (a0_1 : Int) (a1_0 : Int) (a1_1 : Int) : Option (Bool) := (maquettelaw05_awake.f k).bind fun t134 => (if t134 = true then ((prefix_Less.f a0_0 a0_1 a1_0 a1_1).bind fun t135 => (if a0_0 < a1_0 then (some (t135 == true)) else (if a0_0 = a1_0 then (some (t135 == (decide (a0_1 < a1_1)))) else (some (t135 == false))))) else (some false))
theorem maquettelaw05_PrefixLess.mono : ∀ a0 a1 a2 a3 k, LeO (maquettelaw05_PrefixLess.f k a0 a1 a2 a3) (maquettelaw05_PrefixLess.f (k + 1) a0 a1 a2 a3) := by
 intro a0 a1 a2 a3 k
 unfold maquettelaw05_PrefixLess.f
 repeat' first
   | (with_reducible exact maquettelaw05_awake.mono _)
   | (with_reducible exact LeO.refl _)
   | (with_reducible exact LeO.none _)
   | (with_reducible refine LeO.ite ?_ ?_)
   | (with_reducible refine LeO.bind ?_ (fun _ => ?_))
   | exact maquettelaw05_awake.mono _
   | exact LeO.none _
   | refine LeO.ite ?_ ?_
   | refine LeO.bind ?_ (fun _ => ?_)
def maquettelaw05_PrefixLess.T3 : Bool × List (List Nat × List Nat) := (true, [([], []), ([], []), ([0, 1], [0, 1]), ([], []), ([3], [3]), ([], []), ([5], [5]), ([4, 6], [4, 6]), ([7, 2], [7]), ([8], [8]), ([9, 8], [8, 9]), ([8], [8]), ([11, 8], [8, 11]), ([10, 12, 8], [8, 10, 12]), ([13, 8, 8], [8, 13]), ([14], [14]), ([15, 14], [14, 15]), ([14], [14]), ([17, 14], [14, 17]), ([16, 18, 14], [14, 16, 18]), ([14, 19, 8], [8, 14, 19]), ([8, 20], [8, 20]), ([2, 21], [2, 21]), ([22, 14, 0, 1, 2, 3, 4, 5, 6, 7, 8, 9, 10, 11, 12, 13, 14, 15, 16, 17, 18, 19, 20, 21, 22], [22])])
def maquettelaw05_PrefixLess.B3 : List Nat := [0, 0, 3, 0, 8, 0, 32, 120, 255, 511, 1023, 511, 2559, 8191, 16383, 32767, 65535, 32767, 163839, 524287, 1048575, 2097151, 4194303, 8388607]
theorem maquettelaw05_PrefixLess.tab3 : rtab .any (opsOf Tryd.f6 3) = maquettelaw05_PrefixLess.T3 := by kernel_rfl
theorem maquettelaw05_PrefixLess.bits3 : waitsOk maquettelaw05_PrefixLess.T3.2 maquettelaw05_PrefixLess.B3 = true := by kernel_rfl
set_option maxHeartbeats 8000000 in
set_option maxRecDepth 100000 in
theorem maquettelaw05_PrefixLess.calls (k : Nat) (a0_0 : Int) (a0_1 : Int) (a1_0 : Int) (a1_1 : Int) (r : Bool) (w : World) (h : maquettelaw05_PrefixLess.f k a0_0 a0_1 a1_0 a1_1 = some r) (hInv : Go.Proofs.YtkbjjamaneiijaaDoor.Inv.Inv w) :
  Calls Tryd.prog 6 #[.agg #[.int .u32 a0_0, .int .i64 a0_1], .agg #[.int .u32 a1_0, .int .i64 a1_1]] w fun e w' => e = .returned (.bool r) ∧ Below w.heap.size w w' := by
 have hu24 := Tryd.underlying24
 have HB := Aside0.mk (Below.refl w.heap.size w)
 have H : ((maquettelaw05_awake.f k).bind fun t134 => (if t134 = true then ((prefix_Less.f a0_0 a0_1 a1_0 a1_1).bind fun t135 => (if a0_0 < a1_0 then (some (t135 == true)) else (if a0_0 = a1_0 then (some (t135 == (decide (a0_1 < a1_1)))) else (some (t135 == false))))) else (some false))) = some r := h
 clear h
 replace H := Option.bind_eq_some_iff.mp H
 obtain ⟨t134, A30, H⟩ := H
 replace H : (if t134 = true then ((prefix_Less.f a0_0 a0_1 a1_0 a1_1).bind fun t135 => (if a0_0 < a1_0 then (some (t135 == true)) else (if a0_0 = a1_0 then (some (t135 == (decide (a0_1 < a1_1)))) else (some (t135 == false))))) else (some false)) = some r := H
 have A3 := Aside0.mk A30
 clear A30
 by_cases c4 : t134 = true
 ·subst c4
  have H1 : ((prefix_Less.f a0_0 a0_1 a1_0 a1_1).bind fun t135 => (if a0_0 < a1_0 then (some (t135 == true)) else (if a0_0 = a1_0 then (some (t135 == (decide (a0_1 < a1_1)))) else (some (t135 == false))))) = some r := by rw [if_pos rfl] at H; exact H
  clear H
  have H := H1
  clear H1
  replace H := Option.bind_eq_some_iff.mp H
  obtain ⟨t135, A50, H⟩ := H
  replace H : (if a0_0 < a1_0 then (some (t135 == true)) else (if a0_0 = a1_0 then (some (t135 == (decide (a0_1 < a1_1)))) else (some (t135 == false)))) = some r := H
  have A5 := Aside0.mk A50
  clear A50
  by_cases c6 : a0_0 < a1_0
  ·rw [if_pos c6] at H
   have c6b0 : decide (a0_0 < a1_0) = true := decide_eq_true c6
   clear c6
   obtain rfl := Option.some.inj H
   go_enter Tryd.func6, Tryd.ntmps6
   try go_wp2_with (first | ((with_reducible refine gate_dst (N := 2) rfl ?_); refine bx 2 (cs := #[.int .u32 a0_0, .int .i64 a0_1]) (t := 24) (h := ?_); intro gb132 hg w7 hbox hb; have BK132 := Aside0.mk hbox; have GW132 : Aside0 (w.heap.size ≤ gb132) := bge hg; have GE132 : Aside0 (w.heap.size ≤ gb132) := bge hg; replace HB := bst hb; clear hb hbox hg) | ((with_reducible refine gate_dst (N := 3) rfl ?_); refine bx 3 (cs := #[.int .u32 a1_0, .int .i64 a1_1]) (t := 24) (h := ?_); intro gb133 hg w8 hbox hb; have BK133 := Aside0.mk hbox; have GW133 : Aside0 (w.heap.size ≤ gb133) := bge hg; have GE133 : Aside0 (w.heap.size ≤ gb133) := bge hg; have NB132_133 := bne BK132 hg; have NB133_132 := bnf BK132 hg; replace BK132 := bkb BK132 hb; replace HB := bst hb; clear hb hbox hg) | ((with_reducible refine gate_dst (N := 5) rfl ?_); refine gl (some 5) Tryd.func15 #[] ?_; (with_reducible refine (maquettelaw05_awake.calls k  true _ A3.out (by with_reducible first | exact hInv | exact Go.Proofs.YtkbjjamaneiijaaDoor.Inv.Inv.below hInv HB.out | exact Go.Proofs.YtkbjjamaneiijaaDoor.Inv.Inv.below hInv bel | (repeat (first | exact hInv | exact Go.Proofs.YtkbjjamaneiijaaDoor.Inv.Inv.below hInv HB.out | exact Go.Proofs.YtkbjjamaneiijaaDoor.Inv.Inv.below hInv bel | apply Go.Proofs.YtkbjjamaneiijaaDoor.Inv.Inv.alloc | apply Go.Proofs.YtkbjjamaneiijaaDoor.Inv.Inv.drewN | apply Go.Proofs.YtkbjjamaneiijaaDoor.Inv.Inv.drew)))).mono ?_); rintro e w9 ⟨rfl, hb⟩; refine ⟨_, rfl, ?_⟩; replace BK132 := bkb BK132 hb; replace BK133 := bkb BK133 hb; replace HB := bst hb; (try clear hb); (try clear hb2); (try clear hk); (try clear hi)))
   replace BK132 := Aside0.mk (blk_drew BK132.out)
   replace BK133 := Aside0.mk (blk_drew BK133.out)
   replace HB := Aside0.mk (below_drew1 HB.out)
   refine start_ (n := 24) (S := fun w' => w'.cell? ⟨gb132, 0, none⟩ = some (.int .u32 a0_0) ∧ w'.cell? ⟨gb132, 1, none⟩ = some (.int .i64 a0_1) ∧ w'.cell? ⟨gb133, 0, none⟩ = some (.int .u32 a1_0) ∧ w'.cell? ⟨gb133, 1, none⟩ = some (.int .i64 a1_1)) (ds := []) #[false, false, false, false, false, false, false, false, false, false, false, false, false, false, false, false, false, false, false, false, false, false, false, false] (by kernel_rfl) rfl rfl ⟨(blk_cell BK132.out 0).trans rfl, (blk_cell BK132.out 1).trans rfl, (blk_cell BK133.out 0).trans rfl, (blk_cell BK133.out 1).trans rfl⟩ (fun hHeld => ?_); refine with_tabW maquettelaw05_PrefixLess.tab3 maquettelaw05_PrefixLess.bits3 (fun HT_ HW_ => ?_)
   generalize w9.drew = w10 at BK132 BK133 HB hHeld ⊢
   refine pu HT_ 3 (some 10) (mk 24 8) ?_
   refine pu HT_ 5 (some 12) (mk 24 40) ?_
   refine tk HT_ HW_ 0 (some 7) (mk 24 41) hHeld ?_
   refine tk HT_ HW_ 1 (some 8) (mk 24 43) hHeld ?_
   refine tk HT_ HW_ 4 (some 11) (mk 24 59) hHeld ?_
   refine tk HT_ HW_ 6 (some 13) (mk 24 123) hHeld ?_
   refine pu HT_ 7 (some 14) (mk 24 251) ?_
   refine on HT_ 2 (some 9) (mk 24 255) fun K hK => ?_
   refine go1 Tryd.func25 #[.agg #[.int .u32 a0_0, .int .i64 a0_1], .agg #[.int .u32 a1_0, .int .i64 a1_1]] ?_
   with_reducible refine (prefix_Less.calls a0_0 a0_1 a1_0 a1_1 t135 _ A5.out).mono ?_
   rintro e w11 ⟨rfl, hb⟩
   refine ⟨_, rfl, ?_⟩
   replace BK132 := bkb BK132 hb
   replace BK133 := bkb BK133 hb
   replace HB := bst hb
   (try clear hb)
   (try clear hb2)
   (try clear hk)
   (try clear hi)
   refine hK.out _ _ ⟨(blk_cell BK132.out 0).trans rfl, (blk_cell BK132.out 1).trans rfl, (blk_cell BK133.out 0).trans rfl, (blk_cell BK133.out 1).trans rfl⟩ (fun hHeld => ?_)
   clear hK K
   refine nm (some 9) ?_
   refine pu HT_ 8 (some 15) (mk 24 511) ?_
   refine pun HT_ 9 (some 16) (mk 24 1023) ?_
   refine pun HT_ 10 (some 17) (mk 24 2047) ?_
   refine pun HT_ 11 (some 18) (mk 24 4095) ?_
   refine pun HT_ 12 (some 19) (mk 24 8191) ?_
   refine pun HT_ 13 (some 20) (mk 24 16383) ?_
   refine pun HT_ 14 (some 21) (mk 24 32767) ?_
   refine pun HT_ 15 (some 22) (mk 24 65535) ?_
   refine pun HT_ 16 (some 23) (mk 24 131071) ?_
   refine pun HT_ 17 (some 24) (mk 24 262143) ?_
   refine pun HT_ 18 (some 25) (mk 24 524287) ?_
   refine pun HT_ 19 (some 26) (mk 24 1048575) ?_
   refine pun HT_ 20 (some 27) (mk 24 2097151) ?_
   refine pu HT_ 21 (some 28) (mk 24 4194303) ?_
   refine pu HT_ 22 (some 29) (mk 24 8388607) ?_
   refine pu HT_ 23 (some 4) (mk 24 16777215) ?_
   refine done_ (done_of HT_.out (by kernel_rfl)) ?_
   try go_wp2
   go_ret
   exact ⟨by first | rfl | (simp [errW_none, errW_some] <;> rfl) | (simp [*, errW_none, errW_some] <;> rfl), by repeat (first | (with_reducible first | exact HB.out | apply below_alloc | apply pw_below_drewN | apply below_drew1 | refine below_set ?_ GE132.out | refine below_set ?_ GE133.out) | exact HB.out)⟩
  ·rw [if_neg c6] at H
   have c6b0 : decide (a0_0 < a1_0) = false := decide_eq_false c6
   clear c6
   by_cases c12 : a0_0 = a1_0
   ·rw [if_pos c12] at H
    have c12b0 : (a0_0 == a1_0) = true := beq_iff_eq.mpr c12
    have c12b1 : (a0_0 != a1_0) = false := bne_eq_false_iff_eq.mpr c12
    clear c12
    obtain rfl := Option.some.inj H
    go_enter Tryd.func6, Tryd.ntmps6
    try go_wp2_with (first | ((with_reducible refine gate_dst (N := 2) rfl ?_); refine bx 2 (cs := #[.int .u32 a0_0, .int .i64 a0_1]) (t := 24) (h := ?_); intro gb132 hg w13 hbox hb; have BK132 := Aside0.mk hbox; have GW132 : Aside0 (w.heap.size ≤ gb132) := bge hg; have GE132 : Aside0 (w.heap.size ≤ gb132) := bge hg; replace HB := bst hb; clear hb hbox hg) | ((with_reducible refine gate_dst (N := 3) rfl ?_); refine bx 3 (cs := #[.int .u32 a1_0, .int .i64 a1_1]) (t := 24) (h := ?_); intro gb133 hg w14 hbox hb; have BK133 := Aside0.mk hbox; have GW133 : Aside0 (w.heap.size ≤ gb133) := bge hg; have GE133 : Aside0 (w.heap.size ≤ gb133) := bge hg; have NB132_133 := bne BK132 hg; have NB133_132 := bnf BK132 hg; replace BK132 := bkb BK132 hb; replace HB := bst hb; clear hb hbox hg) | ((with_reducible refine gate_dst (N := 5) rfl ?_); refine gl (some 5) Tryd.func15 #[] ?_; (with_reducible refine (maquettelaw05_awake.calls k  true _ A3.out (by with_reducible first | exact hInv | exact Go.Proofs.YtkbjjamaneiijaaDoor.Inv.Inv.below hInv HB.out | exact Go.Proofs.YtkbjjamaneiijaaDoor.Inv.Inv.below hInv bel | (repeat (first | exact hInv | exact Go.Proofs.YtkbjjamaneiijaaDoor.Inv.Inv.below hInv HB.out | exact Go.Proofs.YtkbjjamaneiijaaDoor.Inv.Inv.below hInv bel | apply Go.Proofs.YtkbjjamaneiijaaDoor.Inv.Inv.alloc | apply Go.Proofs.YtkbjjamaneiijaaDoor.Inv.Inv.drewN | apply Go.Proofs.YtkbjjamaneiijaaDoor.Inv.Inv.drew)))).mono ?_); rintro e w15 ⟨rfl, hb⟩; refine ⟨_, rfl, ?_⟩; replace BK132 := bkb BK132 hb; replace BK133 := bkb BK133 hb; replace HB := bst hb; (try clear hb); (try clear hb2); (try clear hk); (try clear hi)))
    replace BK132 := Aside0.mk (blk_drew BK132.out)
    replace BK133 := Aside0.mk (blk_drew BK133.out)
    replace HB := Aside0.mk (below_drew1 HB.out)
    refine start_ (n := 24) (S := fun w' => w'.cell? ⟨gb132, 0, none⟩ = some (.int .u32 a0_0) ∧ w'.cell? ⟨gb132, 1, none⟩ = some (.int .i64 a0_1) ∧ w'.cell? ⟨gb133, 0, none⟩ = some (.int .u32 a1_0) ∧ w'.cell? ⟨gb133, 1, none⟩ = some (.int .i64 a1_1)) (ds := []) #[false, false, false, false, false, false, false, false, false, false, false, false, false, false, false, false, false, false, false, false, false, false, false, false] (by kernel_rfl) rfl rfl ⟨(blk_cell BK132.out 0).trans rfl, (blk_cell BK132.out 1).trans rfl, (blk_cell BK133.out 0).trans rfl, (blk_cell BK133.out 1).trans rfl⟩ (fun hHeld => ?_); refine with_tabW maquettelaw05_PrefixLess.tab3 maquettelaw05_PrefixLess.bits3 (fun HT_ HW_ => ?_)
    generalize w15.drew = w16 at BK132 BK133 HB hHeld ⊢
    refine pu HT_ 3 (some 10) (mk 24 8) ?_
    refine pu HT_ 5 (some 12) (mk 24 40) ?_
    refine tk HT_ HW_ 0 (some 7) (mk 24 41) hHeld ?_
    refine tk HT_ HW_ 1 (some 8) (mk 24 43) hHeld ?_
    refine tk HT_ HW_ 4 (some 11) (mk 24 59) hHeld ?_
    refine tk HT_ HW_ 6 (some 13) (mk 24 123) hHeld ?_
    refine pu HT_ 7 (some 14) (mk 24 251) ?_
    refine on HT_ 2 (some 9) (mk 24 255) fun K hK => ?_
    refine go1 Tryd.func25 #[.agg #[.int .u32 a0_0, .int .i64 a0_1], .agg #[.int .u32 a1_0, .int .i64 a1_1]] ?_
    with_reducible refine (prefix_Less.calls a0_0 a0_1 a1_0 a1_1 t135 _ A5.out).mono ?_
    rintro e w17 ⟨rfl, hb⟩
    refine ⟨_, rfl, ?_⟩
    replace BK132 := bkb BK132 hb
    replace BK133 := bkb BK133 hb
    replace HB := bst hb
    (try clear hb)
    (try clear hb2)
    (try clear hk)
    (try clear hi)
    refine hK.out _ _ ⟨(blk_cell BK132.out 0).trans rfl, (blk_cell BK132.out 1).trans rfl, (blk_cell BK133.out 0).trans rfl, (blk_cell BK133.out 1).trans rfl⟩ (fun hHeld => ?_)
    clear hK K
    refine nm (some 9) ?_
    refine pu HT_ 8 (some 15) (mk 24 511) ?_
    refine pu HT_ 9 (some 16) (mk 24 1023) ?_
    refine pu HT_ 11 (some 18) (mk 24 3071) ?_
    refine tk HT_ HW_ 10 (some 17) (mk 24 4095) hHeld ?_
    refine tk HT_ HW_ 12 (some 19) (mk 24 8191) hHeld ?_
    refine pu HT_ 13 (some 20) (mk 24 16383) ?_
    refine pu HT_ 14 (some 21) (mk 24 32767) ?_
    refine pu HT_ 15 (some 22) (mk 24 65535) ?_
    refine pu HT_ 17 (some 24) (mk 24 196607) ?_
    refine tk HT_ HW_ 16 (some 23) (mk 24 262143) hHeld ?_
    refine tk HT_ HW_ 18 (some 25) (mk 24 524287) hHeld ?_
    refine pu HT_ 19 (some 26) (mk 24 1048575) ?_
    refine pu HT_ 20 (some 27) (mk 24 2097151) ?_
    refine pu HT_ 21 (some 28) (mk 24 4194303) ?_
    refine pu HT_ 22 (some 29) (mk 24 8388607) ?_
    refine pu HT_ 23 (some 4) (mk 24 16777215) ?_
    refine done_ (done_of HT_.out (by kernel_rfl)) ?_
    try go_wp2
    go_ret
    exact ⟨by first | rfl | (simp [errW_none, errW_some] <;> rfl) | (simp [*, errW_none, errW_some] <;> rfl), by repeat (first | (with_reducible first | exact HB.out | apply below_alloc | apply pw_below_drewN | apply below_drew1 | refine below_set ?_ GE132.out | refine below_set ?_ GE133.out) | exact HB.out)⟩
   ·rw [if_neg c12] at H
    have c12b0 : (a0_0 == a1_0) = false := beq_eq_false_iff_ne.mpr c12
    have c12b1 : (a0_0 != a1_0) = true := bne_iff_ne.mpr c12
    obtain rfl := Option.some.inj H
    go_enter Tryd.func6, Tryd.ntmps6
    try go_wp2_with (first | ((with_reducible refine gate_dst (N := 2) rfl ?_); refine bx 2 (cs := #[.int .u32 a0_0, .int .i64 a0_1]) (t := 24) (h := ?_); intro gb132 hg w18 hbox hb; have BK132 := Aside0.mk hbox; have GW132 : Aside0 (w.heap.size ≤ gb132) := bge hg; have GE132 : Aside0 (w.heap.size ≤ gb132) := bge hg; replace HB := bst hb; clear hb hbox hg) | ((with_reducible refine gate_dst (N := 3) rfl ?_); refine bx 3 (cs := #[.int .u32 a1_0, .int .i64 a1_1]) (t := 24) (h := ?_); intro gb133 hg w19 hbox hb; have BK133 := Aside0.mk hbox; have GW133 : Aside0 (w.heap.size ≤ gb133) := bge hg; have GE133 : Aside0 (w.heap.size ≤ gb133) := bge hg; have NB132_133 := bne BK132 hg; have NB133_132 := bnf BK132 hg; replace BK132 := bkb BK132 hb; replace HB := bst hb; clear hb hbox hg) | ((with_reducible refine gate_dst (N := 5) rfl ?_); refine gl (some 5) Tryd.func15 #[] ?_; (with_reducible refine (maquettelaw05_awake.calls k  true _ A3.out (by with_reducible first | exact hInv | exact Go.Proofs.YtkbjjamaneiijaaDoor.Inv.Inv.below hInv HB.out | exact Go.Proofs.YtkbjjamaneiijaaDoor.Inv.Inv.below hInv bel | (repeat (first | exact hInv | exact Go.Proofs.YtkbjjamaneiijaaDoor.Inv.Inv.below hInv HB.out | exact Go.Proofs.YtkbjjamaneiijaaDoor.Inv.Inv.below hInv bel | apply Go.Proofs.YtkbjjamaneiijaaDoor.Inv.Inv.alloc | apply Go.Proofs.YtkbjjamaneiijaaDoor.Inv.Inv.drewN | apply Go.Proofs.YtkbjjamaneiijaaDoor.Inv.Inv.drew)))).mono ?_); rintro e w20 ⟨rfl, hb⟩; refine ⟨_, rfl, ?_⟩; replace BK132 := bkb BK132 hb; replace BK133 := bkb BK133 hb; replace HB := bst hb; (try clear hb); (try clear hb2); (try clear hk); (try clear hi)))
    replace BK132 := Aside0.mk (blk_drew BK132.out)
    replace BK133 := Aside0.mk (blk_drew BK133.out)
    replace HB := Aside0.mk (below_drew1 HB.out)
    refine start_ (n := 24) (S := fun w' => w'.cell? ⟨gb132, 0, none⟩ = some (.int .u32 a0_0) ∧ w'.cell? ⟨gb132, 1, none⟩ = some (.int .i64 a0_1) ∧ w'.cell? ⟨gb133, 0, none⟩ = some (.int .u32 a1_0) ∧ w'.cell? ⟨gb133, 1, none⟩ = some (.int .i64 a1_1)) (ds := []) #[false, false, false, false, false, false, false, false, false, false, false, false, false, false, false, false, false, false, false, false, false, false, false, false] (by kernel_rfl) rfl rfl ⟨(blk_cell BK132.out 0).trans rfl, (blk_cell BK132.out 1).trans rfl, (blk_cell BK133.out 0).trans rfl, (blk_cell BK133.out 1).trans rfl⟩ (fun hHeld => ?_); refine with_tabW maquettelaw05_PrefixLess.tab3 maquettelaw05_PrefixLess.bits3 (fun HT_ HW_ => ?_)
    generalize w20.drew = w21 at BK132 BK133 HB hHeld ⊢
    refine pu HT_ 3 (some 10) (mk 24 8) ?_
    refine pu HT_ 5 (some 12) (mk 24 40) ?_
    refine tk HT_ HW_ 0 (some 7) (mk 24 41) hHeld ?_
    refine tk HT_ HW_ 1 (some 8) (mk 24 43) hHeld ?_
    refine tk HT_ HW_ 4 (some 11) (mk 24 59) hHeld ?_
    refine tk HT_ HW_ 6 (some 13) (mk 24 123) hHeld ?_
    refine pu HT_ 7 (some 14) (mk 24 251) ?_
    refine on HT_ 2 (some 9) (mk 24 255) fun K hK => ?_
    refine go1 Tryd.func25 #[.agg #[.int .u32 a0_0, .int .i64 a0_1], .agg #[.int .u32 a1_0, .int .i64 a1_1]] ?_
    with_reducible refine (prefix_Less.calls a0_0 a0_1 a1_0 a1_1 t135 _ A5.out).mono ?_
    rintro e w22 ⟨rfl, hb⟩
    refine ⟨_, rfl, ?_⟩
    replace BK132 := bkb BK132 hb
    replace BK133 := bkb BK133 hb
    replace HB := bst hb
    (try clear hb)
    (try clear hb2)
    (try clear hk)
    (try clear hi)
    refine hK.out _ _ ⟨(blk_cell BK132.out 0).trans rfl, (blk_cell BK132.out 1).trans rfl, (blk_cell BK133.out 0).trans rfl, (blk_cell BK133.out 1).trans rfl⟩ (fun hHeld => ?_)
    clear hK K
    refine nm (some 9) ?_
    refine pu HT_ 8 (some 15) (mk 24 511) ?_
    refine pu HT_ 9 (some 16) (mk 24 1023) ?_
    refine pu HT_ 11 (some 18) (mk 24 3071) ?_
    refine tk HT_ HW_ 10 (some 17) (mk 24 4095) hHeld ?_
    refine tk HT_ HW_ 12 (some 19) (mk 24 8191) hHeld ?_
    refine pu HT_ 13 (some 20) (mk 24 16383) ?_
    refine pu HT_ 14 (some 21) (mk 24 32767) ?_
    refine pun HT_ 15 (some 22) (mk 24 65535) ?_
    refine pun HT_ 16 (some 23) (mk 24 131071) ?_
    refine pun HT_ 17 (some 24) (mk 24 262143) ?_
    refine pun HT_ 18 (some 25) (mk 24 524287) ?_
    refine pun HT_ 19 (some 26) (mk 24 1048575) ?_
    refine pu HT_ 20 (some 27) (mk 24 2097151) ?_
    refine pu HT_ 21 (some 28) (mk 24 4194303) ?_
    refine pu HT_ 22 (some 29) (mk 24 8388607) ?_
    refine pu HT_ 23 (some 4) (mk 24 16777215) ?_
    refine done_ (done_of HT_.out (by kernel_rfl)) ?_
    try go_wp2
    go_ret
    exact ⟨by first | rfl | (simp [errW_none, errW_some] <;> rfl) | (simp [*, errW_none, errW_some] <;> rfl), by repeat (first | (with_reducible first | exact HB.out | apply below_alloc | apply pw_below_drewN | apply below_drew1 | refine below_set ?_ GE132.out | refine below_set ?_ GE133.out) | exact HB.out)⟩
 ·replace c4 := Bool.eq_false_iff.mpr c4
  subst c4
  have H1 : (some false) = some r := by rw [if_neg (show ¬ (false = true) by decide)] at H; exact H
  clear H
  have H := H1
  clear H1
  obtain rfl := Option.some.inj H
  go_enter Tryd.func6, Tryd.ntmps6
  go_wp2_with (first | ((with_reducible refine gate_dst (N := 2) rfl ?_); refine bx 2 (cs := #[.int .u32 a0_0, .int .i64 a0_1]) (t := 24) (h := ?_); intro gb132 hg w23 hbox hb; have BK132 := Aside0.mk hbox; have GW132 : Aside0 (w.heap.size ≤ gb132) := bge hg; have GE132 : Aside0 (w.heap.size ≤ gb132) := bge hg; replace HB := bst hb; clear hb hbox hg) | ((with_reducible refine gate_dst (N := 3) rfl ?_); refine bx 3 (cs := #[.int .u32 a1_0, .int .i64 a1_1]) (t := 24) (h := ?_); intro gb133 hg w24 hbox hb; have BK133 := Aside0.mk hbox; have GW133 : Aside0 (w.heap.size ≤ gb133) := bge hg; have GE133 : Aside0 (w.heap.size ≤ gb133) := bge hg; have NB132_133 := bne BK132 hg; have NB133_132 := bnf BK132 hg; replace BK132 := bkb BK132 hb; replace HB := bst hb; clear hb hbox hg) | ((with_reducible refine gate_dst (N := 5) rfl ?_); refine gl (some 5) Tryd.func15 #[] ?_; (with_reducible refine (maquettelaw05_awake.calls k  false _ A3.out (by with_reducible first | exact hInv | exact Go.Proofs.YtkbjjamaneiijaaDoor.Inv.Inv.below hInv HB.out | exact Go.Proofs.YtkbjjamaneiijaaDoor.Inv.Inv.below hInv bel | (repeat (first | exact hInv | exact Go.Proofs.YtkbjjamaneiijaaDoor.Inv.Inv.below hInv HB.out | exact Go.Proofs.YtkbjjamaneiijaaDoor.Inv.Inv.below hInv bel | apply Go.Proofs.YtkbjjamaneiijaaDoor.Inv.Inv.alloc | apply Go.Proofs.YtkbjjamaneiijaaDoor.Inv.Inv.drewN | apply Go.Proofs.YtkbjjamaneiijaaDoor.Inv.Inv.drew)))).mono ?_); rintro e w25 ⟨rfl, hb⟩; refine ⟨_, rfl, ?_⟩; replace BK132 := bkb BK132 hb; replace BK133 := bkb BK133 hb; replace HB := bst hb; (try clear hb); (try clear hb2); (try clear hk); (try clear hi)))
  go_ret
  exact ⟨by first | rfl | (simp [errW_none, errW_some] <;> rfl) | (simp [*, errW_none, errW_some] <;> rfl), by repeat (first | (with_reducible first | exact HB.out | apply below_alloc | apply pw_below_drewN | apply below_drew1 | refine below_set ?_ GE132.out | refine below_set ?_ GE133.out) | exact HB.out)⟩

end Go.Proofs.YtkbjjamaneiijaaDoor.PPre
