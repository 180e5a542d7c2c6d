-- Written by wip/xprint.py of this work: the printer of the kit, with contracts of this work beside it, shortened.
import Derived.Test.YtpalofndmbmiiaaShort
import Derived.Test.YtpalofndmbmiiaaPLowx0
namespace Go.Proofs.Ytpalofndmbmiiaa.PLow
open Go.RowKit Go.Proofs.Ytpalofndmbmiiaa.Short Go.Proofs.YtpalofndmbmiiaaW.PrintWords Go.Proofs.YtpalofndmbmiiaaW.PrintLast Go.Proofs.YtpalofndmbmiiaaW.PrintMore
attribute [local go_sem] max2_int min2_int max_two min_two max_three min_three max_four min_four   -- for this text's walks alone
set_option linter.unusedVariables false
set_option linter.unusedSimpArgs false

/-! ### prefix_Less: function 14 -/
def prefix_Less.f (a0_0 : Int) (a0_1 : Int) (a1_0 : Int) (a1_1 : Int) : Option (Bool) := if a0_0 < a1_0 then (some true) else (if a0_0 = a1_0 then (some (decide (a0_1 < a1_1))) else (some false))
set_option maxHeartbeats 8000000 in
set_option maxRecDepth 100000 in
theorem prefix_Less.calls (a0_0 : Int) (a0_1 : Int) (a1_0 : Int) (a1_1 : Int) (r : Bool) (w : World) (h : prefix_Less.f a0_0 a0_1 a1_0 a1_1 = some r) :
  Calls Try.prog 14 #[.agg #[.int .u32 a0_0, .int .i64 a0_1], .agg #[.int .u32 a1_0, .int .i64 a1_1]] w fun e w' => e = .returned (.bool r) ∧ Below w.heap.size w w' := by
 have hu42 := Try.underlying42
 have HB := Aside0.mk (Below.refl w.heap.size w)
 have H : (if a0_0 < a1_0 then (some true) else (if a0_0 = a1_0 then (some (decide (a0_1 < a1_1))) else (some false))) = some r := h
 clear h
 by_cases c3 : a0_0 < a1_0
 ·rw [if_pos c3] at H
  have c3b0 := decide_eq_true c3
  clear c3
  obtain rfl := Option.some.inj H
  go_enter Try.func14, Try.ntmps14
  go_wp2_with (first | ((with_reducible refine gate_dst (N := 2) rfl ?_); refine bx 2 (cs := #[.int .u32 a0_0, .int .i64 a0_1]) (t := 42) (h := ?_); intro gb204 hg w4 hbox hb; have BK204 := Aside0.mk hbox; have GW204 : Aside0 (w.heap.size ≤ gb204) := bge hg; have GE204 : Aside0 (w.heap.size ≤ gb204) := bge hg; replace HB := bst hb; clear hb hbox hg) | ((with_reducible refine gate_dst (N := 3) rfl ?_); refine bx 3 (cs := #[.int .u32 a1_0, .int .i64 a1_1]) (t := 42) (h := ?_); intro gb205 hg w5 hbox hb; have BK205 := Aside0.mk hbox; have GW205 : Aside0 (w.heap.size ≤ gb205) := bge hg; have GE205 : Aside0 (w.heap.size ≤ gb205) := bge hg; have NB204_205 := bne BK204 hg; have NB205_204 := bnf BK204 hg; replace BK204 := bkb BK204 hb; replace HB := bst hb; clear hb hbox hg; have hnb6 := NB204_205.out; have hnc6 := NB205_204.out; obtain ⟨hcz7_0, hcz7_1, hfz7_0, hfz7_1⟩ := bc2 BK204; obtain ⟨hcz8_0, hcz8_1, hfz8_0, hfz8_1⟩ := bc2 BK205))
  go_ret
  exact ⟨by first | rfl | (simp [errW_none, errW_some] <;> rfl) | (simp [*, errW_none, errW_some] <;> rfl), by repeat (first | (with_reducible first | exact HB.out | apply below_alloc | apply pw_below_drewN | apply below_drew1 | refine below_set ?_ GE204.out | refine below_set ?_ GE205.out) | exact HB.out)⟩
 ·rw [if_neg c3] at H
  have c3b0 := decide_eq_false c3
  clear c3
  by_cases c9 : a0_0 = a1_0
  ·rw [if_pos c9] at H
   have c9b0 : (a0_0 == a1_0) = true := beq_iff_eq.mpr c9
   have c9b1 : (a0_0 != a1_0) = false := bne_eq_false_iff_eq.mpr c9
   clear c9
   obtain rfl := Option.some.inj H
   go_enter Try.func14, Try.ntmps14
   go_wp2_with (first | ((with_reducible refine gate_dst (N := 2) rfl ?_); refine bx 2 (cs := #[.int .u32 a0_0, .int .i64 a0_1]) (t := 42) (h := ?_); intro gb204 hg w10 hbox hb; have BK204 := Aside0.mk hbox; have GW204 : Aside0 (w.heap.size ≤ gb204) := bge hg; have GE204 : Aside0 (w.heap.size ≤ gb204) := bge hg; replace HB := bst hb; clear hb hbox hg) | ((with_reducible refine gate_dst (N := 3) rfl ?_); refine bx 3 (cs := #[.int .u32 a1_0, .int .i64 a1_1]) (t := 42) (h := ?_); intro gb205 hg w11 hbox hb; have BK205 := Aside0.mk hbox; have GW205 : Aside0 (w.heap.size ≤ gb205) := bge hg; have GE205 : Aside0 (w.heap.size ≤ gb205) := bge hg; have NB204_205 := bne BK204 hg; have NB205_204 := bnf BK204 hg; replace BK204 := bkb BK204 hb; replace HB := bst hb; clear hb hbox hg; have hnb12 := NB204_205.out; have hnc12 := NB205_204.out; obtain ⟨hcz13_0, hcz13_1, hfz13_0, hfz13_1⟩ := bc2 BK204; obtain ⟨hcz14_0, hcz14_1, hfz14_0, hfz14_1⟩ := bc2 BK205))
   go_ret
   exact ⟨by first | rfl | (simp [errW_none, errW_some] <;> rfl) | (simp [*, errW_none, errW_some] <;> rfl), by repeat (first | (with_reducible first | exact HB.out | apply below_alloc | apply pw_below_drewN | apply below_drew1 | refine below_set ?_ GE204.out | refine below_set ?_ GE205.out) | exact HB.out)⟩
  ·rw [if_neg c9] at H
   have c9b0 : (a0_0 == a1_0) = false := beq_eq_false_iff_ne.mpr c9
   have c9b1 : (a0_0 != a1_0) = true := bne_iff_ne.mpr c9
   obtain rfl := Option.some.inj H
   go_enter Try.func14, Try.ntmps14
   go_wp2_with (first | ((with_reducible refine gate_dst (N := 2) rfl ?_); refine bx 2 (cs := #[.int .u32 a0_0, .int .i64 a0_1]) (t := 42) (h := ?_); intro gb204 hg w15 hbox hb; have BK204 := Aside0.mk hbox; have GW204 : Aside0 (w.heap.size ≤ gb204) := bge hg; have GE204 : Aside0 (w.heap.size ≤ gb204) := bge hg; replace HB := bst hb; clear hb hbox hg) | ((with_reducible refine gate_dst (N := 3) rfl ?_); refine bx 3 (cs := #[.int .u32 a1_0, .int .i64 a1_1]) (t := 42) (h := ?_); intro gb205 hg w16 hbox hb; have BK205 := Aside0.mk hbox; have GW205 : Aside0 (w.heap.size ≤ gb205) := bge hg; have GE205 : Aside0 (w.heap.size ≤ gb205) := bge hg; have NB204_205 := bne BK204 hg; have NB205_204 := bnf BK204 hg; replace BK204 := bkb BK204 hb; replace HB := bst hb; clear hb hbox hg; have hnb17 := NB204_205.out; have hnc17 := NB205_204.out; obtain ⟨hcz18_0, hcz18_1, hfz18_0, hfz18_1⟩ := bc2 BK204; obtain ⟨hcz19_0, hcz19_1, hfz19_0, hfz19_1⟩ := bc2 BK205))
   go_ret
   exact ⟨by first | rfl | (simp [errW_none, errW_some] <;> rfl) | (simp [*, errW_none, errW_some] <;> rfl), by repeat (first | (with_reducible first | exact HB.out | apply below_alloc | apply pw_below_drewN | apply below_drew1 | refine below_set ?_ GE204.out | refine below_set ?_ GE205.out) | exact HB.out)⟩

end Go.Proofs.Ytpalofndmbmiiaa.PLow
