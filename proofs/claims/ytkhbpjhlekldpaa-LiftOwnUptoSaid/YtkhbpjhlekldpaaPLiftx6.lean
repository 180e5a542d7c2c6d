-- Written by wip/xprint.py of this work: the printer of the kit, with contracts of this work beside it, shortened.
import Derived.Test.YtkhbpjhlekldpaaShort
import Derived.Test.YtkhbpjhlekldpaaPLiftx0
import Derived.Test.YtkhbpjhlekldpaaPLiftx5
namespace Go.Proofs.Ytkhbpjhlekldpaa.PLift
open Go.RowKit Go.Proofs.Ytkhbpjhlekldpaa.Short Go.Proofs.YtkhbpjhlekldpaaW.PrintWords Go.Proofs.YtkhbpjhlekldpaaW.PrintLast Go.Proofs.YtkhbpjhlekldpaaW.PrintMore
attribute [local go_sem] max2_int min2_int max_two min_two max_three min_three max_four min_four   -- for this text's walks alone
set_option linter.unusedVariables false
set_option linter.unusedSimpArgs false

/-! ### clause_Matches: function 66 -/
def clause_Matches.f (a0_0 : Bool) (a0_1 : Int) (a0_2 : Int) (a0_3 : Int) (a0_4 : Int) (a0_5 : Bool) (a0_6 : Int) (a0_7 : Int) (a0_8 : Int) (a0_9 : Int) (a1_0 : Int) (a1_1 : Int) (a2 : Int) : Option (Bool) := if a0_0 = true then (if (Go.bits .and .u8 a2 a0_3) = a0_3 then (some ((Go.bits .and .u8 a2 a0_4) == 0)) else (some false)) else ((prefix_Covers.f a0_1 a0_2 a1_0 a1_1).bind fun t125 => (if t125 = true then (if (Go.bits .and .u8 a2 a0_3) = a0_3 then (some ((Go.bits .and .u8 a2 a0_4) == 0)) else (some false)) else (some false)))
set_option maxHeartbeats 8000000 in
set_option maxRecDepth 100000 in
theorem clause_Matches.calls (a0_0 : Bool) (a0_1 : Int) (a0_2 : Int) (a0_3 : Int) (a0_4 : Int) (a0_5 : Bool) (a0_6 : Int) (a0_7 : Int) (a0_8 : Int) (a0_9 : Int) (a1_0 : Int) (a1_1 : Int) (a2 : Int) (r : Bool) (w : World) (h : clause_Matches.f a0_0 a0_1 a0_2 a0_3 a0_4 a0_5 a0_6 a0_7 a0_8 a0_9 a1_0 a1_1 a2 = some r) :
  Calls Try.prog 66 #[.agg #[.bool a0_0, .int .u32 a0_1, .int .i64 a0_2, .int .u8 a0_3, .int .u8 a0_4, .bool a0_5, .int .u8 a0_6, .int .u8 a0_7, .int .i64 a0_8, .int .i64 a0_9], .agg #[.int .u32 a1_0, .int .i64 a1_1], .int .u8 a2] w fun e w' => e = .returned (.bool r) ∧ Below w.heap.size w w' := by
 have hu119 := Try.underlying119
 have hu35 := Try.underlying35
 have HB := Aside0.mk (Below.refl w.heap.size w)
 have H : (if a0_0 = true then (if (Go.bits .and .u8 a2 a0_3) = a0_3 then (some ((Go.bits .and .u8 a2 a0_4) == 0)) else (some false)) else ((prefix_Covers.f a0_1 a0_2 a1_0 a1_1).bind fun t125 => (if t125 = true then (if (Go.bits .and .u8 a2 a0_3) = a0_3 then (some ((Go.bits .and .u8 a2 a0_4) == 0)) else (some false)) else (some false)))) = some r := h
 clear h
 by_cases c4 : a0_0 = true
 ·subst c4
  have H1 : (if (Go.bits .and .u8 a2 a0_3) = a0_3 then (some ((Go.bits .and .u8 a2 a0_4) == 0)) else (some false)) = some r := by rw [if_pos rfl] at H; exact H
  clear H
  have H := H1
  clear H1
  by_cases c5 : (Go.bits .and .u8 a2 a0_3) = a0_3
  ·rw [if_pos c5] at H
   have c5b0 : ((Go.bits .and .u8 a2 a0_3) == a0_3) = true := beq_iff_eq.mpr c5
   have c5b1 : ((Go.bits .and .u8 a2 a0_3) != a0_3) = false := bne_eq_false_iff_eq.mpr c5
   clear c5
   obtain rfl := Option.some.inj H
   go_enter Try.func66, Try.ntmps66
   go_wp2_with (first | ((with_reducible refine gate_dst (N := 3) rfl ?_); refine bx 3 (cs := #[.bool true, .int .u32 a0_1, .int .i64 a0_2, .int .u8 a0_3, .int .u8 a0_4, .bool a0_5, .int .u8 a0_6, .int .u8 a0_7, .int .i64 a0_8, .int .i64 a0_9]) (t := 119) (h := ?_); intro gb123 hg w6 hbox hb; have BK123 := Aside0.mk hbox; have GW123 : Aside0 (w.heap.size ≤ gb123) := bge hg; have GE123 : Aside0 (w.heap.size ≤ gb123) := bge hg; replace HB := bst hb; clear hb hbox hg) | ((with_reducible refine gate_dst (N := 4) rfl ?_); refine bx 4 (cs := #[.int .u32 a1_0, .int .i64 a1_1]) (t := 35) (h := ?_); intro gb124 hg w7 hbox hb; have BK124 := Aside0.mk hbox; have GW124 : Aside0 (w.heap.size ≤ gb124) := bge hg; have GE124 : Aside0 (w.heap.size ≤ gb124) := bge hg; have NB123_124 := bne BK123 hg; have NB124_123 := bnf BK123 hg; replace BK123 := bkb BK123 hb; replace HB := bst hb; clear hb hbox hg; have hnb8 := NB123_124.out; have hnc8 := NB124_123.out; obtain ⟨hcz9_0, hcz9_1, hcz9_2, hcz9_3, hcz9_4, hcz9_5, hcz9_6, hcz9_7, hcz9_8, hcz9_9, hfz9_0, hfz9_1, hfz9_2, hfz9_3, hfz9_4, hfz9_5, hfz9_6, hfz9_7, hfz9_8, hfz9_9⟩ := bc10 BK123))
   go_ret
   exact ⟨by first | rfl | (simp [errW_none, errW_some] <;> rfl) | (simp [*, errW_none, errW_some] <;> rfl), by repeat (first | (with_reducible first | exact HB.out | apply below_alloc | apply pw_below_drewN | apply below_drew1 | refine below_set ?_ GE123.out | refine below_set ?_ GE124.out) | exact HB.out)⟩
  ·rw [if_neg c5] at H
   have c5b0 : ((Go.bits .and .u8 a2 a0_3) == a0_3) = false := beq_eq_false_iff_ne.mpr c5
   have c5b1 : ((Go.bits .and .u8 a2 a0_3) != a0_3) = true := bne_iff_ne.mpr c5
   obtain rfl := Option.some.inj H
   go_enter Try.func66, Try.ntmps66
   go_wp2_with (first | ((with_reducible refine gate_dst (N := 3) rfl ?_); refine bx 3 (cs := #[.bool true, .int .u32 a0_1, .int .i64 a0_2, .int .u8 a0_3, .int .u8 a0_4, .bool a0_5, .int .u8 a0_6, .int .u8 a0_7, .int .i64 a0_8, .int .i64 a0_9]) (t := 119) (h := ?_); intro gb123 hg w10 hbox hb; have BK123 := Aside0.mk hbox; have GW123 : Aside0 (w.heap.size ≤ gb123) := bge hg; have GE123 : Aside0 (w.heap.size ≤ gb123) := bge hg; replace HB := bst hb; clear hb hbox hg) | ((with_reducible refine gate_dst (N := 4) rfl ?_); refine bx 4 (cs := #[.int .u32 a1_0, .int .i64 a1_1]) (t := 35) (h := ?_); intro gb124 hg w11 hbox hb; have BK124 := Aside0.mk hbox; have GW124 : Aside0 (w.heap.size ≤ gb124) := bge hg; have GE124 : Aside0 (w.heap.size ≤ gb124) := bge hg; have NB123_124 := bne BK123 hg; have NB124_123 := bnf BK123 hg; replace BK123 := bkb BK123 hb; replace HB := bst hb; clear hb hbox hg; have hnb12 := NB123_124.out; have hnc12 := NB124_123.out; obtain ⟨hcz13_0, hcz13_1, hcz13_2, hcz13_3, hcz13_4, hcz13_5, hcz13_6, hcz13_7, hcz13_8, hcz13_9, hfz13_0, hfz13_1, hfz13_2, hfz13_3, hfz13_4, hfz13_5, hfz13_6, hfz13_7, hfz13_8, hfz13_9⟩ := bc10 BK123))
   go_ret
   exact ⟨by first | rfl | (simp [errW_none, errW_some] <;> rfl) | (simp [*, errW_none, errW_some] <;> rfl), by repeat (first | (with_reducible first | exact HB.out | apply below_alloc | apply pw_below_drewN | apply below_drew1 | refine below_set ?_ GE123.out | refine below_set ?_ GE124.out) | exact HB.out)⟩
 ·replace c4 := Bool.eq_false_iff.mpr c4
  subst c4
  have H1 : ((prefix_Covers.f a0_1 a0_2 a1_0 a1_1).bind fun t125 => (if t125 = true then (if (Go.bits .and .u8 a2 a0_3) = a0_3 then (some ((Go.bits .and .u8 a2 a0_4) == 0)) else (some false)) else (some false))) = some r := by rw [if_neg (show ¬ (false = true) by decide)] at H; exact H
  clear H
  have H := H1
  clear H1
  replace H := Option.bind_eq_some_iff.mp H
  obtain ⟨t125, A140, H⟩ := H
  replace H : (if t125 = true then (if (Go.bits .and .u8 a2 a0_3) = a0_3 then (some ((Go.bits .and .u8 a2 a0_4) == 0)) else (some false)) else (some false)) = some r := H
  have A14 := Aside0.mk A140
  clear A140
  by_cases c15 : t125 = true
  ·subst c15
   have H1 : (if (Go.bits .and .u8 a2 a0_3) = a0_3 then (some ((Go.bits .and .u8 a2 a0_4) == 0)) else (some false)) = some r := by rw [if_pos rfl] at H; exact H
   clear H
   have H := H1
   clear H1
   by_cases c16 : (Go.bits .and .u8 a2 a0_3) = a0_3
   ·rw [if_pos c16] at H
    have c16b0 : ((Go.bits .and .u8 a2 a0_3) == a0_3) = true := beq_iff_eq.mpr c16
    have c16b1 : ((Go.bits .and .u8 a2 a0_3) != a0_3) = false := bne_eq_false_iff_eq.mpr c16
    clear c16
    obtain rfl := Option.some.inj H
    go_enter Try.func66, Try.ntmps66
    go_wp2_with (first | ((with_reducible refine gate_dst (N := 3) rfl ?_); refine bx 3 (cs := #[.bool false, .int .u32 a0_1, .int .i64 a0_2, .int .u8 a0_3, .int .u8 a0_4, .bool a0_5, .int .u8 a0_6, .int .u8 a0_7, .int .i64 a0_8, .int .i64 a0_9]) (t := 119) (h := ?_); intro gb123 hg w17 hbox hb; have BK123 := Aside0.mk hbox; have GW123 : Aside0 (w.heap.size ≤ gb123) := bge hg; have GE123 : Aside0 (w.heap.size ≤ gb123) := bge hg; replace HB := bst hb; clear hb hbox hg) | ((with_reducible refine gate_dst (N := 4) rfl ?_); refine bx 4 (cs := #[.int .u32 a1_0, .int .i64 a1_1]) (t := 35) (h := ?_); intro gb124 hg w18 hbox hb; have BK124 := Aside0.mk hbox; have GW124 : Aside0 (w.heap.size ≤ gb124) := bge hg; have GE124 : Aside0 (w.heap.size ≤ gb124) := bge hg; have NB123_124 := bne BK123 hg; have NB124_123 := bnf BK123 hg; replace BK123 := bkb BK123 hb; replace HB := bst hb; clear hb hbox hg; have hnb19 := NB123_124.out; have hnc19 := NB124_123.out; obtain ⟨hcz20_0, hcz20_1, hcz20_2, hcz20_3, hcz20_4, hcz20_5, hcz20_6, hcz20_7, hcz20_8, hcz20_9, hfz20_0, hfz20_1, hfz20_2, hfz20_3, hfz20_4, hfz20_5, hfz20_6, hfz20_7, hfz20_8, hfz20_9⟩ := bc10 BK123; obtain ⟨hcz21_0, hcz21_1, hfz21_0, hfz21_1⟩ := bc2 BK124) | (go_at_call 53; (with_reducible refine (prefix_Covers.calls a0_1 a0_2 a1_0 a1_1 true _ A14.out).mono ?_); rintro e w22 ⟨rfl, hb⟩; replace BK123 := bkb BK123 hb; replace BK124 := bkb BK124 hb; replace HB := bst hb; (try clear hb); (try clear hb2); (try clear hk); (try clear hi); obtain ⟨hcz23_0, hcz23_1, hcz23_2, hcz23_3, hcz23_4, hcz23_5, hcz23_6, hcz23_7, hcz23_8, hcz23_9, hfz23_0, hfz23_1, hfz23_2, hfz23_3, hfz23_4, hfz23_5, hfz23_6, hfz23_7, hfz23_8, hfz23_9⟩ := bc10 BK123))
    go_ret
    exact ⟨by first | rfl | (simp [errW_none, errW_some] <;> rfl) | (simp [*, errW_none, errW_some] <;> rfl), by repeat (first | (with_reducible first | exact HB.out | apply below_alloc | apply pw_below_drewN | apply below_drew1 | refine below_set ?_ GE123.out | refine below_set ?_ GE124.out) | exact HB.out)⟩
   ·rw [if_neg c16] at H
    have c16b0 : ((Go.bits .and .u8 a2 a0_3) == a0_3) = false := beq_eq_false_iff_ne.mpr c16
    have c16b1 : ((Go.bits .and .u8 a2 a0_3) != a0_3) = true := bne_iff_ne.mpr c16
    obtain rfl := Option.some.inj H
    go_enter Try.func66, Try.ntmps66
    go_wp2_with (first | ((with_reducible refine gate_dst (N := 3) rfl ?_); refine bx 3 (cs := #[.bool false, .int .u32 a0_1, .int .i64 a0_2, .int .u8 a0_3, .int .u8 a0_4, .bool a0_5, .int .u8 a0_6, .int .u8 a0_7, .int .i64 a0_8, .int .i64 a0_9]) (t := 119) (h := ?_); intro gb123 hg w24 hbox hb; have BK123 := Aside0.mk hbox; have GW123 : Aside0 (w.heap.size ≤ gb123) := bge hg; have GE123 : Aside0 (w.heap.size ≤ gb123) := bge hg; replace HB := bst hb; clear hb hbox hg) | ((with_reducible refine gate_dst (N := 4) rfl ?_); refine bx 4 (cs := #[.int .u32 a1_0, .int .i64 a1_1]) (t := 35) (h := ?_); intro gb124 hg w25 hbox hb; have BK124 := Aside0.mk hbox; have GW124 : Aside0 (w.heap.size ≤ gb124) := bge hg; have GE124 : Aside0 (w.heap.size ≤ gb124) := bge hg; have NB123_124 := bne BK123 hg; have NB124_123 := bnf BK123 hg; replace BK123 := bkb BK123 hb; replace HB := bst hb; clear hb hbox hg; have hnb26 := NB123_124.out; have hnc26 := NB124_123.out; obtain ⟨hcz27_0, hcz27_1, hcz27_2, hcz27_3, hcz27_4, hcz27_5, hcz27_6, hcz27_7, hcz27_8, hcz27_9, hfz27_0, hfz27_1, hfz27_2, hfz27_3, hfz27_4, hfz27_5, hfz27_6, hfz27_7, hfz27_8, hfz27_9⟩ := bc10 BK123; obtain ⟨hcz28_0, hcz28_1, hfz28_0, hfz28_1⟩ := bc2 BK124) | (go_at_call 53; (with_reducible refine (prefix_Covers.calls a0_1 a0_2 a1_0 a1_1 true _ A14.out).mono ?_); rintro e w29 ⟨rfl, hb⟩; replace BK123 := bkb BK123 hb; replace BK124 := bkb BK124 hb; replace HB := bst hb; (try clear hb); (try clear hb2); (try clear hk); (try clear hi); obtain ⟨hcz30_0, hcz30_1, hcz30_2, hcz30_3, hcz30_4, hcz30_5, hcz30_6, hcz30_7, hcz30_8, hcz30_9, hfz30_0, hfz30_1, hfz30_2, hfz30_3, hfz30_4, hfz30_5, hfz30_6, hfz30_7, hfz30_8, hfz30_9⟩ := bc10 BK123))
    go_ret
    exact ⟨by first | rfl | (simp [errW_none, errW_some] <;> rfl) | (simp [*, errW_none, errW_some] <;> rfl), by repeat (first | (with_reducible first | exact HB.out | apply below_alloc | apply pw_below_drewN | apply below_drew1 | refine below_set ?_ GE123.out | refine below_set ?_ GE124.out) | exact HB.out)⟩
  ·replace c15 := Bool.eq_false_iff.mpr c15
   subst c15
   have H1 : (some false) = some r := by rw [if_neg (show ¬ (false = true) by decide)] at H; exact H
   clear H
   have H := H1
   clear H1
   obtain rfl := Option.some.inj H
   go_enter Try.func66, Try.ntmps66
   go_wp2_with (first | ((with_reducible refine gate_dst (N := 3) rfl ?_); refine bx 3 (cs := #[.bool false, .int .u32 a0_1, .int .i64 a0_2, .int .u8 a0_3, .int .u8 a0_4, .bool a0_5, .int .u8 a0_6, .int .u8 a0_7, .int .i64 a0_8, .int .i64 a0_9]) (t := 119) (h := ?_); intro gb123 hg w31 hbox hb; have BK123 := Aside0.mk hbox; have GW123 : Aside0 (w.heap.size ≤ gb123) := bge hg; have GE123 : Aside0 (w.heap.size ≤ gb123) := bge hg; replace HB := bst hb; clear hb hbox hg) | ((with_reducible refine gate_dst (N := 4) rfl ?_); refine bx 4 (cs := #[.int .u32 a1_0, .int .i64 a1_1]) (t := 35) (h := ?_); intro gb124 hg w32 hbox hb; have BK124 := Aside0.mk hbox; have GW124 : Aside0 (w.heap.size ≤ gb124) := bge hg; have GE124 : Aside0 (w.heap.size ≤ gb124) := bge hg; have NB123_124 := bne BK123 hg; have NB124_123 := bnf BK123 hg; replace BK123 := bkb BK123 hb; replace HB := bst hb; clear hb hbox hg; have hnb33 := NB123_124.out; have hnc33 := NB124_123.out; obtain ⟨hcz34_0, hcz34_1, hcz34_2, hcz34_3, hcz34_4, hcz34_5, hcz34_6, hcz34_7, hcz34_8, hcz34_9, hfz34_0, hfz34_1, hfz34_2, hfz34_3, hfz34_4, hfz34_5, hfz34_6, hfz34_7, hfz34_8, hfz34_9⟩ := bc10 BK123; obtain ⟨hcz35_0, hcz35_1, hfz35_0, hfz35_1⟩ := bc2 BK124) | (go_at_call 53; (with_reducible refine (prefix_Covers.calls a0_1 a0_2 a1_0 a1_1 false _ A14.out).mono ?_); rintro e w36 ⟨rfl, hb⟩; replace BK123 := bkb BK123 hb; replace BK124 := bkb BK124 hb; replace HB := bst hb; (try clear hb); (try clear hb2); (try clear hk); (try clear hi)))
   go_ret
   exact ⟨by first | rfl | (simp [errW_none, errW_some] <;> rfl) | (simp [*, errW_none, errW_some] <;> rfl), by repeat (first | (with_reducible first | exact HB.out | apply below_alloc | apply pw_below_drewN | apply below_drew1 | refine below_set ?_ GE123.out | refine below_set ?_ GE124.out) | exact HB.out)⟩

end Go.Proofs.Ytkhbpjhlekldpaa.PLift
