-- Written by wip/xprint.py of this work: the printer of the kit, with contracts of this work beside it, shortened.
import Derived.Test.YtkhbpjhlekldpaaShort
import Derived.Test.YtkhbpjhlekldpaaPLiftx0
import Derived.Test.YtkhbpjhlekldpaaPLiftx7
namespace Go.Proofs.Ytkhbpjhlekldpaa.PLift
open Go.RowKit Go.Proofs.Ytkhbpjhlekldpaa.Short Go.Proofs.YtkhbpjhlekldpaaW.PrintWords Go.Proofs.YtkhbpjhlekldpaaW.PrintLast Go.Proofs.YtkhbpjhlekldpaaW.PrintMore
attribute [local go_sem] max2_int min2_int max_two min_two max_three min_three max_four min_four   -- for this text's walks alone
set_option linter.unusedVariables false
set_option linter.unusedSimpArgs false

/-! ### edge_Take: function 32 -/
def edge_Take.f (k : Nat) (a0_0 : Int) (a0_1 : Int) (l0_2 : List (S119)) (l0_3 : List (S119)) (a1_0 : Bool) (a1_1 : Int) (a1_2 : Int) (a1_3 : Int) : Option (Bool × Int × Int × Int) := (clause_Do.f k l0_2 0 0 a1_0 a1_1 a1_2 a1_3).bind fun bt135 => (if bt135.1 = true then ((clause_Do.f k l0_3 0 0 bt135.1 100 (wrap64 (bt135.2.2.1 + (mx 1 (mn a0_1 1000)))) bt135.2.2.2).bind fun bt139 => (some (bt139.1, bt139.2.1, bt139.2.2.1, bt139.2.2.2))) else (some (false, 0, 0, 0)))
theorem edge_Take.mono : ∀ a0 a1 a2 a3 a4 a5 a6 a7 k, LeO (edge_Take.f k a0 a1 a2 a3 a4 a5 a6 a7) (edge_Take.f (k + 1) a0 a1 a2 a3 a4 a5 a6 a7) := by
 intro a0 a1 a2 a3 a4 a5 a6 a7 k
 unfold edge_Take.f
 repeat' first
   | (with_reducible exact clause_Do.mono _ _ _ _ _ _ _ _)
   | (with_reducible exact LeO.refl _)
   | (with_reducible exact LeO.none _)
   | (with_reducible refine LeO.ite ?_ ?_)
   | (with_reducible refine LeO.bind ?_ (fun _ => ?_))
   | exact clause_Do.mono _ _ _ _ _ _ _ _
   | exact LeO.none _
   | refine LeO.ite ?_ ?_
   | refine LeO.bind ?_ (fun _ => ?_)
set_option maxHeartbeats 8000000 in
set_option maxRecDepth 100000 in
theorem edge_Take.calls (k : Nat) (a0_0 : Int) (a0_1 : Int) (A0_2 : Option Addr) (c0_2 : Nat) (l0_2 : List (S119)) (A0_3 : Option Addr) (c0_3 : Nat) (l0_3 : List (S119)) (a1_0 : Bool) (a1_1 : Int) (a1_2 : Int) (a1_3 : Int) (r1 : Bool) (r2 : Int) (r3 : Int) (r4 : Int) (w : World) (hr0_2 : Kd.C k119 w A0_2 l0_2.length l0_2) (hc0_2 : l0_2.length ≤ c0_2) (hr0_3 : Kd.C k119 w A0_3 l0_3.length l0_3) (hc0_3 : l0_3.length ≤ c0_3) (h : edge_Take.f k a0_0 a0_1 l0_2 l0_3 a1_0 a1_1 a1_2 a1_3 = some (r1, r2, r3, r4)) :
  Calls Try.prog 32 #[.agg #[.int .i64 a0_0, .int .i64 a0_1, .slice A0_2 l0_2.length c0_2, .slice A0_3 l0_3.length c0_3], .agg #[.bool a1_0, .int .i64 a1_1, .int .i64 a1_2, .int .u8 a1_3]] w fun e w' => e = .returned (.agg #[.bool r1, .int .i64 r2, .int .i64 r3, .int .u8 r4]) ∧ Below w.heap.size w w' := by
 have hu51 := Try.underlying51
 have hu41 := Try.underlying41
 have hu35 := Try.underlying35
 have HR0_2 := Aside0.mk hr0_2
 have HC0_2 := Aside0.mk hc0_2
 clear hr0_2 hc0_2
 have HR0_3 := Aside0.mk hr0_3
 have HC0_3 := Aside0.mk hc0_3
 clear hr0_3 hc0_3
 have HB := Aside0.mk (Below.refl w.heap.size w)
 have H : ((clause_Do.f k l0_2 0 0 a1_0 a1_1 a1_2 a1_3).bind fun bt135 => (if bt135.1 = true then ((clause_Do.f k l0_3 0 0 bt135.1 100 (wrap64 (bt135.2.2.1 + (mx 1 (mn a0_1 1000)))) bt135.2.2.2).bind fun bt139 => (some (bt139.1, bt139.2.1, bt139.2.2.1, bt139.2.2.2))) else (some (false, 0, 0, 0)))) = some (r1, r2, r3, r4) := h
 clear h
 replace H := Option.bind_eq_some_iff.mp H
 obtain ⟨⟨t135, t136, t137, t138⟩, A30, H⟩ := H
 replace H : (if t135 = true then ((clause_Do.f k l0_3 0 0 t135 100 (wrap64 (t137 + (mx 1 (mn a0_1 1000)))) t138).bind fun bt139 => (some (bt139.1, bt139.2.1, bt139.2.2.1, bt139.2.2.2))) else (some (false, 0, 0, 0))) = some (r1, r2, r3, r4) := H
 have A3 := Aside0.mk A30
 clear A30
 by_cases c4 : t135 = true
 ·subst c4
  have H1 : ((clause_Do.f k l0_3 0 0 true 100 (wrap64 (t137 + (mx 1 (mn a0_1 1000)))) t138).bind fun bt139 => (some (bt139.1, bt139.2.1, bt139.2.2.1, bt139.2.2.2))) = some (r1, r2, r3, r4) := by rw [if_pos rfl] at H; exact H
  clear H
  have H := H1
  clear H1
  obtain ⟨ji5, hji5⟩ : ∃ j_ : Int, (mn a0_1 1000) = j_ := ⟨_, rfl⟩
  replace H : ((clause_Do.f k l0_3 0 0 true 100 (wrap64 (t137 + (mx 1 (ji5)))) t138).bind fun bt139 => (some (bt139.1, bt139.2.1, bt139.2.2.1, bt139.2.2.2))) = some (r1, r2, r3, r4) := by first | (rw [hji5] at H; exact H) | (simp only [hji5] at H ⊢; exact H)
  (try rw [hji5] at A3)
  (try (have hji5h : ji5 ≤ 1000 := by (rw [← hji5]; unfold mn; (repeat' split) <;> omega)))
  (try (have hji5g : ji5 ≤ 64 := by omega))
  have hji5_ : (if 1000 < a0_1 then 1000 else a0_1) = ji5 := hji5
  obtain ⟨ji6, hji6⟩ : ∃ j_ : Int, (mx 1 (ji5)) = j_ := ⟨_, rfl⟩
  replace H : ((clause_Do.f k l0_3 0 0 true 100 (wrap64 (t137 + (ji6))) t138).bind fun bt139 => (some (bt139.1, bt139.2.1, bt139.2.2.1, bt139.2.2.2))) = some (r1, r2, r3, r4) := by first | (rw [hji6] at H; exact H) | (simp only [hji6] at H ⊢; exact H)
  (try rw [hji6] at A3)
  have hji6_ : (if 1 < (ji5) then (ji5) else 1) = ji6 := hji6
  replace H := Option.bind_eq_some_iff.mp H
  obtain ⟨⟨t139, t140, t141, t142⟩, A70, H⟩ := H
  replace H : (some (t139, t140, t141, t142)) = some (r1, r2, r3, r4) := H
  have A7 := Aside0.mk A70
  clear A70
  simp only [Option.some.injEq, Prod.mk.injEq] at H
  obtain ⟨rfl, rfl, rfl, rfl⟩ := H
  go_enter Try.func32, Try.ntmps32
  go_upto_region 6 with (first | ((with_reducible refine gate_dst (N := 2) rfl ?_); refine bx 2 (cs := #[.int .i64 a0_0, .int .i64 a0_1, .slice A0_2 l0_2.length c0_2, .slice A0_3 l0_3.length c0_3]) (t := 51) (h := ?_); intro gb132 hg w8 hbox hb; have BK132 := Aside0.mk hbox; have GW132 : Aside0 (w.heap.size ≤ gb132) := bge hg; have GE132 : Aside0 (w.heap.size ≤ gb132) := bge hg; replace HB := bst hb; clear hb hbox hg) | ((with_reducible refine gate_dst (N := 3) rfl ?_); refine bx 3 (cs := #[.bool a1_0, .int .i64 a1_1, .int .i64 a1_2, .int .u8 a1_3]) (t := 41) (h := ?_); intro gb133 hg w9 hbox hb; have BK133 := Aside0.mk hbox; have GW133 : Aside0 (w.heap.size ≤ gb133) := bge hg; have GE133 : Aside0 (w.heap.size ≤ gb133) := bge hg; have NB132_133 := bne BK132 hg; have NB133_132 := bnf BK132 hg; replace BK132 := bkb BK132 hb; replace HB := bst hb; clear hb hbox hg) | ((with_reducible refine gate_dst (N := 4) rfl ?_); refine bx 4 (cs := #[.bool false, .int .i64 0, .int .i64 0, .int .u8 0]) (t := 41) (h := ?_); intro gb134 hg w10 hbox hb; have BK134 := Aside0.mk hbox; have GW134 : Aside0 (w.heap.size ≤ gb134) := bge hg; have GE134 : Aside0 (w.heap.size ≤ gb134) := bge hg; have NB132_134 := bne BK132 hg; have NB134_132 := bnf BK132 hg; have NB133_134 := bne BK133 hg; have NB134_133 := bnf BK133 hg; replace BK132 := bkb BK132 hb; replace BK133 := bkb BK133 hb; replace HB := bst hb; clear hb hbox hg; have hnb11 := NB132_133.out; have hnc11 := NB133_132.out; have hnb12 := NB132_134.out; have hnc12 := NB134_132.out; obtain ⟨hcz13_0, hcz13_1, hcz13_2, hcz13_3, hfz13_0, hfz13_1, hfz13_2, hfz13_3⟩ := bc4 BK132; have hnb14 := NB133_134.out; have hnc14 := NB134_133.out; obtain ⟨hcz15_0, hcz15_1, hcz15_2, hcz15_3, hfz15_0, hfz15_1, hfz15_2, hfz15_3⟩ := bc4 BK133) | ((with_reducible refine gate_dst (N := 9) rfl ?_); refine gl (some 9) Try.func49 #[.slice A0_2 l0_2.length c0_2, .agg #[.int .u32 0, .int .i64 0], .agg #[.bool a1_0, .int .i64 a1_1, .int .i64 a1_2, .int .u8 a1_3]] ?_; (with_reducible refine (clause_Do.calls k _ _ l0_2 0 0 a1_0 a1_1 a1_2 a1_3 true t136 t137 t138 _ ?side1 ?side2 A3.out).mono ?_); (case side1 => repeat (first | exact (Kd.C_below HR0_2.out HB.out) | (with_reducible refine Kd.C_alloc ?_ _) | (with_reducible refine Kd.C_drewN ?_ _) | (with_reducible refine Kd.C_drew ?_))); (case side2 => exact HC0_2.out); rintro e w16 ⟨rfl, hb⟩; refine ⟨_, rfl, ?_⟩; replace BK132 := bkb BK132 hb; replace BK133 := bkb BK133 hb; replace BK134 := bkb BK134 hb; replace HB := bst hb; (try clear hb); (try clear hb2); (try clear hk); (try clear hi); obtain ⟨hcz17_0, hcz17_1, hcz17_2, hcz17_3, hfz17_0, hfz17_1, hfz17_2, hfz17_3⟩ := bc4 BK133; obtain ⟨hcz18_0, hcz18_1, hcz18_2, hcz18_3, hfz18_0, hfz18_1, hfz18_2, hfz18_3⟩ := bc4 BK132))
  refine wpGen ?_
  intro w_ hw_
  replace BK132 : Aside0 (w_.heap[gb132]? = some (.cells #[.int .i64 a0_0, .int .i64 a0_1, .slice A0_2 l0_2.length c0_2, .slice A0_3 l0_3.length c0_3] 51 (0, 0))) := ⟨by rw [hw_]; exact bkp BK132⟩
  replace BK133 : Aside0 (w_.heap[gb133]? = some (.cells #[.bool true, .int .i64 100, .int .i64 (wrap64 (t137 + (ji6))), .int .u8 t138] 41 (0, 0))) := ⟨by rw [hw_]; exact bkp BK133⟩
  replace BK134 : Aside0 (w_.heap[gb134]? = some (.cells #[.bool false, .int .i64 0, .int .i64 0, .int .u8 0] 41 (0, 0))) := ⟨by rw [hw_]; exact bkp BK134⟩
  replace HB : Aside0 (Below w.heap.size w w_) := ⟨by rw [hw_]; exact bel⟩
  clear hw_
  obtain ⟨hwgb132_0, hwgb132_1, hwgb132_2, hwgb132_3, hwgb132_4, hwgb132_5, hwgb132_6, hwgb132_7⟩ := bc4 BK132
  obtain ⟨hwgb133_0, hwgb133_1, hwgb133_2, hwgb133_3, hwgb133_4, hwgb133_5, hwgb133_6, hwgb133_7⟩ := bc4 BK133
  obtain ⟨hwgb134_0, hwgb134_1, hwgb134_2, hwgb134_3, hwgb134_4, hwgb134_5, hwgb134_6, hwgb134_7⟩ := bc4 BK134
  go_wp2_with (((with_reducible refine gate_dst (N := 27) rfl ?_); refine goesL_ (some 27) rfl rfl Try.func49 (by kernel_rfl) rfl #[.slice A0_3 l0_3.length c0_3, .agg #[.int .u32 0, .int .i64 0], .agg #[.bool true, .int .i64 100, .int .i64 (wrap64 (t137 + (ji6))), .int .u8 t138]] rfl (by (try simp only [List.map_toArray, List.map_cons, List.map_nil]); first | done | (simp only [hji6]; rfl) | rfl | (simp only [List.length_drop, List.length_take]; rfl)) ?_; (with_reducible refine (clause_Do.calls k _ _ l0_3 0 0 true 100 (wrap64 (t137 + (ji6))) t138 t139 t140 t141 t142 _ ?side1 ?side2 A7.out).mono ?_); (case side1 => exact Kd.C_below HR0_3.out bel); (case side2 => exact HC0_3.out); rintro e w19 ⟨rfl, hb⟩; refine ⟨_, rfl, ?_⟩; replace BK132 := bkb BK132 hb; replace BK133 := Aside0.mk (blk_below (g := gb133) (o := .cells #[.bool true, .int .i64 100, .int .i64 (wrap64 (t137 + (ji6))), .int .u8 t138] 41 (0, 0)) (bkp BK133) hb); replace BK134 := bkb BK134 hb; replace HB := bst hb; (try clear hb); (try clear hb2); (try clear hk); (try clear hi); obtain ⟨hcz20_0, hcz20_1, hcz20_2, hcz20_3, hfz20_0, hfz20_1, hfz20_2, hfz20_3⟩ := bc4 BK134))
  refine bodyPost_ret (results_cell_row rfl _ _ gb134 41 #[.bool t139, .int .i64 t140, .int .i64 t141, .int .u8 t142] (0, 0) _ rfl (bkp BK134) Try.underlying41 rfl (by kernel_rfl)) rfl ?_
  exact ⟨by first | rfl | (simp [errW_none, errW_some] <;> rfl) | (simp only [← hji5, ← hji6]; first | rfl | (simp [errW_none, errW_some] <;> rfl)) | (simp [*, errW_none, errW_some] <;> rfl), by repeat (first | (with_reducible first | exact HB.out | apply below_alloc | apply pw_below_drewN | apply below_drew1 | refine below_set ?_ GE132.out | refine below_set ?_ GE133.out | refine below_set ?_ GE134.out) | exact HB.out)⟩
 ·replace c4 := Bool.eq_false_iff.mpr c4
  subst c4
  have H1 : (some (false, 0, 0, 0)) = some (r1, r2, r3, r4) := by rw [if_neg (show ¬ (false = true) by decide)] at H; exact H
  clear H
  have H := H1
  clear H1
  simp only [Option.some.injEq, Prod.mk.injEq] at H
  obtain ⟨rfl, rfl, rfl, rfl⟩ := H
  go_enter Try.func32, Try.ntmps32
  go_wp2_with (first | ((with_reducible refine gate_dst (N := 2) rfl ?_); refine bx 2 (cs := #[.int .i64 a0_0, .int .i64 a0_1, .slice A0_2 l0_2.length c0_2, .slice A0_3 l0_3.length c0_3]) (t := 51) (h := ?_); intro gb132 hg w21 hbox hb; have BK132 := Aside0.mk hbox; have GW132 : Aside0 (w.heap.size ≤ gb132) := bge hg; have GE132 : Aside0 (w.heap.size ≤ gb132) := bge hg; replace HB := bst hb; clear hb hbox hg) | ((with_reducible refine gate_dst (N := 3) rfl ?_); refine bx 3 (cs := #[.bool a1_0, .int .i64 a1_1, .int .i64 a1_2, .int .u8 a1_3]) (t := 41) (h := ?_); intro gb133 hg w22 hbox hb; have BK133 := Aside0.mk hbox; have GW133 : Aside0 (w.heap.size ≤ gb133) := bge hg; have GE133 : Aside0 (w.heap.size ≤ gb133) := bge hg; have NB132_133 := bne BK132 hg; have NB133_132 := bnf BK132 hg; replace BK132 := bkb BK132 hb; replace HB := bst hb; clear hb hbox hg) | ((with_reducible refine gate_dst (N := 4) rfl ?_); refine bx 4 (cs := #[.bool false, .int .i64 0, .int .i64 0, .int .u8 0]) (t := 41) (h := ?_); intro gb134 hg w23 hbox hb; have BK134 := Aside0.mk hbox; have GW134 : Aside0 (w.heap.size ≤ gb134) := bge hg; have GE134 : Aside0 (w.heap.size ≤ gb134) := bge hg; have NB132_134 := bne BK132 hg; have NB134_132 := bnf BK132 hg; have NB133_134 := bne BK133 hg; have NB134_133 := bnf BK133 hg; replace BK132 := bkb BK132 hb; replace BK133 := bkb BK133 hb; replace HB := bst hb; clear hb hbox hg; have hnb24 := NB132_133.out; have hnc24 := NB133_132.out; have hnb25 := NB132_134.out; have hnc25 := NB134_132.out; obtain ⟨hcz26_0, hcz26_1, hcz26_2, hcz26_3, hfz26_0, hfz26_1, hfz26_2, hfz26_3⟩ := bc4 BK132; have hnb27 := NB133_134.out; have hnc27 := NB134_133.out; obtain ⟨hcz28_0, hcz28_1, hcz28_2, hcz28_3, hfz28_0, hfz28_1, hfz28_2, hfz28_3⟩ := bc4 BK133) | ((with_reducible refine gate_dst (N := 9) rfl ?_); refine gl (some 9) Try.func49 #[.slice A0_2 l0_2.length c0_2, .agg #[.int .u32 0, .int .i64 0], .agg #[.bool a1_0, .int .i64 a1_1, .int .i64 a1_2, .int .u8 a1_3]] ?_; (with_reducible refine (clause_Do.calls k _ _ l0_2 0 0 a1_0 a1_1 a1_2 a1_3 false t136 t137 t138 _ ?side1 ?side2 A3.out).mono ?_); (case side1 => repeat (first | exact (Kd.C_below HR0_2.out HB.out) | (with_reducible refine Kd.C_alloc ?_ _) | (with_reducible refine Kd.C_drewN ?_ _) | (with_reducible refine Kd.C_drew ?_))); (case side2 => exact HC0_2.out); rintro e w29 ⟨rfl, hb⟩; refine ⟨_, rfl, ?_⟩; replace BK132 := bkb BK132 hb; replace BK133 := bkb BK133 hb; replace BK134 := bkb BK134 hb; replace HB := bst hb; (try clear hb); (try clear hb2); (try clear hk); (try clear hi); obtain ⟨hcz30_0, hcz30_1, hcz30_2, hcz30_3, hfz30_0, hfz30_1, hfz30_2, hfz30_3⟩ := bc4 BK133; obtain ⟨hcz31_0, hcz31_1, hcz31_2, hcz31_3, hfz31_0, hfz31_1, hfz31_2, hfz31_3⟩ := bc4 BK134))
  refine bodyPost_ret (results_cell_row rfl _ _ gb134 41 #[.bool false, .int .i64 0, .int .i64 0, .int .u8 0] (0, 0) _ rfl (bkp BK134) Try.underlying41 rfl (by kernel_rfl)) rfl ?_
  exact ⟨by first | rfl | (simp [errW_none, errW_some] <;> rfl) | (simp [*, errW_none, errW_some] <;> rfl), by repeat (first | (with_reducible first | exact HB.out | apply below_alloc | apply pw_below_drewN | apply below_drew1 | refine below_set ?_ GE132.out | refine below_set ?_ GE133.out | refine below_set ?_ GE134.out) | exact HB.out)⟩

end Go.Proofs.Ytkhbpjhlekldpaa.PLift
