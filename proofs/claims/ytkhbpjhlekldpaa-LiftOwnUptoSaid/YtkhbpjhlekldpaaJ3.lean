/- Texts of this work, joined: PLiftx1, PLiftx10. -/
import Derived.Test.YtkhbpjhlekldpaaPLiftx0
import Derived.Test.YtkhbpjhlekldpaaShort
section
namespace Go.Proofs.Ytkhbpjhlekldpaa.PLift
open Go.RowKit Go.Proofs.YtkhbpjhlekldpaaW.PrintWords Go.Proofs.YtkhbpjhlekldpaaW.PrintLast Go.Proofs.YtkhbpjhlekldpaaW.PrintMore
attribute [local go_sem] max2_int min2_int max_two min_two max_three min_three max_four min_four   -- for this text's walks alone
set_option linter.unusedVariables false
set_option linter.unusedSimpArgs false

theorem eqA41 (d : Nat) (w : World) (x0 y0 : Bool) (x1 y1 : Int) (x2 y2 : Int) (x3 y3 : Int) :
    (Op.equalIn (d + 2) 41 (.agg #[.bool x0, .int .i64 x1, .int .i64 x2, .int .u8 x3]) (.agg #[.bool y0, .int .i64 y1, .int .i64 y2, .int .u8 y3])).run Try.prog w = .ok (x0 == y0 && (x1 == y1 && (x2 == y2 && (x3 == y3)))) w := by
  refine eqA_of Try.underlying41 (by kernel_rfl) ?_
  refine eqf_cons (by rfl) (by go_simp; rfl) (by go_simp; rfl) (by go_simp) ?_
  refine eqf_cons (by rfl) (by go_simp; rfl) (by go_simp; rfl) (by go_simp) ?_
  refine eqf_cons (by rfl) (by go_simp; rfl) (by go_simp; rfl) (by go_simp) ?_
  exact eqf_last (by rfl) (by go_simp; rfl) (by go_simp; rfl) (by go_simp)
end Go.Proofs.Ytkhbpjhlekldpaa.PLift
end
section
namespace Go.Proofs.Ytkhbpjhlekldpaa.PLift
open Go.RowKit Go.Proofs.Ytkhbpjhlekldpaa.Short Go.Proofs.YtkhbpjhlekldpaaW.PrintWords Go.Proofs.YtkhbpjhlekldpaaW.PrintLast Go.Proofs.YtkhbpjhlekldpaaW.PrintMore
attribute [local go_sem] max2_int min2_int max_two min_two max_three min_three max_four min_four   -- for this text's walks alone
set_option linter.unusedVariables false
set_option linter.unusedSimpArgs false

attribute [local go_sem high] eqA41
/-! ### attr_Same: function 16 -/
def attr_Same.f (a0_0 : Bool) (a0_1 : Int) (a0_2 : Int) (a0_3 : Int) (a1_0 : Bool) (a1_1 : Int) (a1_2 : Int) (a1_3 : Int) : Option (Bool) := if a0_0 = true then (some (a0_0 == a1_0 && (a0_1 == a1_1 && (a0_2 == a1_2 && (a0_3 == a1_3))))) else (if a1_0 = true then (some (a0_0 == a1_0 && (a0_1 == a1_1 && (a0_2 == a1_2 && (a0_3 == a1_3))))) else (some true))
set_option maxHeartbeats 8000000 in
set_option maxRecDepth 100000 in
theorem attr_Same.calls (a0_0 : Bool) (a0_1 : Int) (a0_2 : Int) (a0_3 : Int) (a1_0 : Bool) (a1_1 : Int) (a1_2 : Int) (a1_3 : Int) (r : Bool) (w : World) (h : attr_Same.f a0_0 a0_1 a0_2 a0_3 a1_0 a1_1 a1_2 a1_3 = some r) :
  Calls Try.prog 16 #[.agg #[.bool a0_0, .int .i64 a0_1, .int .i64 a0_2, .int .u8 a0_3], .agg #[.bool a1_0, .int .i64 a1_1, .int .i64 a1_2, .int .u8 a1_3]] w fun e w' => e = .returned (.bool r) ∧ Below w.heap.size w w' := by
 have hu41 := Try.underlying41
 have HB := Aside0.mk (Below.refl w.heap.size w)
 have H : (if a0_0 = true then (some (a0_0 == a1_0 && (a0_1 == a1_1 && (a0_2 == a1_2 && (a0_3 == a1_3))))) else (if a1_0 = true then (some (a0_0 == a1_0 && (a0_1 == a1_1 && (a0_2 == a1_2 && (a0_3 == a1_3))))) else (some true))) = some r := h
 clear h
 by_cases c3 : a0_0 = true
 ·subst c3
  have H1 : (some (true == a1_0 && (a0_1 == a1_1 && (a0_2 == a1_2 && (a0_3 == a1_3))))) = some r := by rw [if_pos rfl] at H; exact H
  clear H
  have H := H1
  clear H1
  obtain rfl := Option.some.inj H
  go_enter Try.func16, Try.ntmps16
  go_wp2_with (first | ((with_reducible refine gate_dst (N := 2) rfl ?_); refine bx 2 (cs := #[.bool true, .int .i64 a0_1, .int .i64 a0_2, .int .u8 a0_3]) (t := 41) (h := ?_); intro gb162 hg w4 hbox hb; have BK162 := Aside0.mk hbox; have GW162 : Aside0 (w.heap.size ≤ gb162) := bge hg; have GE162 : Aside0 (w.heap.size ≤ gb162) := bge hg; replace HB := bst hb; clear hb hbox hg) | ((with_reducible refine gate_dst (N := 3) rfl ?_); refine bx 3 (cs := #[.bool a1_0, .int .i64 a1_1, .int .i64 a1_2, .int .u8 a1_3]) (t := 41) (h := ?_); intro gb163 hg w5 hbox hb; have BK163 := Aside0.mk hbox; have GW163 : Aside0 (w.heap.size ≤ gb163) := bge hg; have GE163 : Aside0 (w.heap.size ≤ gb163) := bge hg; have NB162_163 := bne BK162 hg; have NB163_162 := bnf BK162 hg; replace BK162 := bkb BK162 hb; replace HB := bst hb; clear hb hbox hg; have hnb6 := NB162_163.out; have hnc6 := NB163_162.out; obtain ⟨hcz7_0, hcz7_1, hcz7_2, hcz7_3, hfz7_0, hfz7_1, hfz7_2, hfz7_3⟩ := bc4 BK162; obtain ⟨hcz8_0, hcz8_1, hcz8_2, hcz8_3, hfz8_0, hfz8_1, hfz8_2, hfz8_3⟩ := bc4 BK163))
  go_ret
  exact ⟨by first | rfl | (simp [errW_none, errW_some] <;> rfl) | (simp [*, errW_none, errW_some] <;> rfl), by repeat (first | (with_reducible first | exact HB.out | apply below_alloc | apply pw_below_drewN | apply below_drew1 | refine below_set ?_ GE162.out | refine below_set ?_ GE163.out) | exact HB.out)⟩
 ·replace c3 := Bool.eq_false_iff.mpr c3
  subst c3
  have H1 : (if a1_0 = true then (some (false == a1_0 && (a0_1 == a1_1 && (a0_2 == a1_2 && (a0_3 == a1_3))))) else (some true)) = some r := by rw [if_neg (show ¬ (false = true) by decide)] at H; exact H
  clear H
  have H := H1
  clear H1
  by_cases c9 : a1_0 = true
  ·subst c9
   have H1 : (some (false == true && (a0_1 == a1_1 && (a0_2 == a1_2 && (a0_3 == a1_3))))) = some r := by rw [if_pos rfl] at H; exact H
   clear H
   have H := H1
   clear H1
   obtain rfl := Option.some.inj H
   go_enter Try.func16, Try.ntmps16
   go_wp2_with (first | ((with_reducible refine gate_dst (N := 2) rfl ?_); refine bx 2 (cs := #[.bool false, .int .i64 a0_1, .int .i64 a0_2, .int .u8 a0_3]) (t := 41) (h := ?_); intro gb162 hg w10 hbox hb; have BK162 := Aside0.mk hbox; have GW162 : Aside0 (w.heap.size ≤ gb162) := bge hg; have GE162 : Aside0 (w.heap.size ≤ gb162) := bge hg; replace HB := bst hb; clear hb hbox hg) | ((with_reducible refine gate_dst (N := 3) rfl ?_); refine bx 3 (cs := #[.bool true, .int .i64 a1_1, .int .i64 a1_2, .int .u8 a1_3]) (t := 41) (h := ?_); intro gb163 hg w11 hbox hb; have BK163 := Aside0.mk hbox; have GW163 : Aside0 (w.heap.size ≤ gb163) := bge hg; have GE163 : Aside0 (w.heap.size ≤ gb163) := bge hg; have NB162_163 := bne BK162 hg; have NB163_162 := bnf BK162 hg; replace BK162 := bkb BK162 hb; replace HB := bst hb; clear hb hbox hg; have hnb12 := NB162_163.out; have hnc12 := NB163_162.out; obtain ⟨hcz13_0, hcz13_1, hcz13_2, hcz13_3, hfz13_0, hfz13_1, hfz13_2, hfz13_3⟩ := bc4 BK162; obtain ⟨hcz14_0, hcz14_1, hcz14_2, hcz14_3, hfz14_0, hfz14_1, hfz14_2, hfz14_3⟩ := bc4 BK163))
   go_ret
   exact ⟨by first | rfl | (simp [errW_none, errW_some] <;> rfl) | (simp [*, errW_none, errW_some] <;> rfl), by repeat (first | (with_reducible first | exact HB.out | apply below_alloc | apply pw_below_drewN | apply below_drew1 | refine below_set ?_ GE162.out | refine below_set ?_ GE163.out) | exact HB.out)⟩
  ·replace c9 := Bool.eq_false_iff.mpr c9
   subst c9
   have H1 : (some true) = some r := by rw [if_neg (show ¬ (false = true) by decide)] at H; exact H
   clear H
   have H := H1
   clear H1
   obtain rfl := Option.some.inj H
   go_enter Try.func16, Try.ntmps16
   go_wp2_with (first | ((with_reducible refine gate_dst (N := 2) rfl ?_); refine bx 2 (cs := #[.bool false, .int .i64 a0_1, .int .i64 a0_2, .int .u8 a0_3]) (t := 41) (h := ?_); intro gb162 hg w15 hbox hb; have BK162 := Aside0.mk hbox; have GW162 : Aside0 (w.heap.size ≤ gb162) := bge hg; have GE162 : Aside0 (w.heap.size ≤ gb162) := bge hg; replace HB := bst hb; clear hb hbox hg) | ((with_reducible refine gate_dst (N := 3) rfl ?_); refine bx 3 (cs := #[.bool false, .int .i64 a1_1, .int .i64 a1_2, .int .u8 a1_3]) (t := 41) (h := ?_); intro gb163 hg w16 hbox hb; have BK163 := Aside0.mk hbox; have GW163 : Aside0 (w.heap.size ≤ gb163) := bge hg; have GE163 : Aside0 (w.heap.size ≤ gb163) := bge hg; have NB162_163 := bne BK162 hg; have NB163_162 := bnf BK162 hg; replace BK162 := bkb BK162 hb; replace HB := bst hb; clear hb hbox hg; have hnb17 := NB162_163.out; have hnc17 := NB163_162.out; obtain ⟨hcz18_0, hcz18_1, hcz18_2, hcz18_3, hfz18_0, hfz18_1, hfz18_2, hfz18_3⟩ := bc4 BK162; obtain ⟨hcz19_0, hcz19_1, hcz19_2, hcz19_3, hfz19_0, hfz19_1, hfz19_2, hfz19_3⟩ := bc4 BK163))
   go_ret
   exact ⟨by first | rfl | (simp [errW_none, errW_some] <;> rfl) | (simp [*, errW_none, errW_some] <;> rfl), by repeat (first | (with_reducible first | exact HB.out | apply below_alloc | apply pw_below_drewN | apply below_drew1 | refine below_set ?_ GE162.out | refine below_set ?_ GE163.out) | exact HB.out)⟩

end Go.Proofs.Ytkhbpjhlekldpaa.PLift
end
