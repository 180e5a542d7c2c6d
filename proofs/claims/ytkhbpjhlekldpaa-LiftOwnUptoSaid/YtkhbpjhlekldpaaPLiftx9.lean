-- Written by wip/xprint.py of this work: the printer of the kit, with contracts of this work beside it, shortened.
import Derived.Test.YtkhbpjhlekldpaaShort
import Derived.Test.YtkhbpjhlekldpaaPLiftx0
import Derived.Test.YtkhbpjhlekldpaaPLiftx8
namespace Go.Proofs.Ytkhbpjhlekldpaa.PLift
open Go.RowKit Go.Proofs.Ytkhbpjhlekldpaa.Short Go.Proofs.YtkhbpjhlekldpaaW.PrintWords Go.Proofs.YtkhbpjhlekldpaaW.PrintLast Go.Proofs.YtkhbpjhlekldpaaW.PrintMore
attribute [local go_sem] max2_int min2_int max_two min_two max_three min_three max_four min_four   -- for this text's walks alone
set_option linter.unusedVariables false
set_option linter.unusedSimpArgs false

/-! ### stable_Offers: function 15 -/
mutual
def stable_Offers.j0 : Nat → List (S41) → Int → List (S41) → Bool → List Bool → List Int → List (List (S51)) → Option ((List (S41)))
 | 0, _, _, _, _, _, _, _ => none
 | k + 1, x1, x2, x7, x19, x144000, x144001, x144002 => if x19 = true then (some ([] : List (S41))) else (if 0 ≤ x2 then (if x2 < (x144002.length : Int) then (stable_Offers.l0 k x1 x7 (rd_L10 x144002 x2) ((rd_L10 x144002 x2).length : Int) 0) else (none)) else (none))
def stable_Offers.l0 : Nat → List (S41) → List (S41) → List (S51) → Int → Int → Option ((List (S41)))
 | 0, _, _, _, _, _ => none
 | k + 1, x1, x7, x24, x25, x26 => if x26 < x25 then (if 0 ≤ x26 then (if x26 < (x24.length : Int) then (if ((rd_T51 x24 x26).f0) ≥ 0 then (if ((rd_T51 x24 x26).f0) < (x1.length : Int) then (if 0 ≤ ((rd_T51 x24 x26).f0) then ((edge_Take.f k ((rd_T51 x24 x26).f0) ((rd_T51 x24 x26).f1) ((rd_T51 x24 x26).f2) ((rd_T51 x24 x26).f3) ((rd_T41 x1 ((rd_T51 x24 x26).f0)).f0) ((rd_T41 x1 ((rd_T51 x24 x26).f0)).f1) ((rd_T41 x1 ((rd_T51 x24 x26).f0)).f2) ((rd_T41 x1 ((rd_T51 x24 x26).f0)).f3)).bind fun bt149 => (if x7.length < 4398046511104 then (stable_Offers.l0 k x1 (x7 ++ [(⟨bt149.1, bt149.2.1, bt149.2.2.1, bt149.2.2.2⟩ : S41)]) x24 x25 (wrap64 (x26 + 1))) else (none))) else (none)) else (if x7.length < 4398046511104 then (stable_Offers.l0 k x1 (x7 ++ [(⟨false, 0, 0, 0⟩ : S41)]) x24 x25 (wrap64 (x26 + 1))) else (none))) else (if x7.length < 4398046511104 then (stable_Offers.l0 k x1 (x7 ++ [(⟨false, 0, 0, 0⟩ : S41)]) x24 x25 (wrap64 (x26 + 1))) else (none))) else (none)) else (none)) else (some x7)
end
def stable_Offers.f (k : Nat) (l0_0 : List Bool) (l0_1 : List Int) (l0_2 : List (List (S51))) (l1 : List (S41)) (a2 : Int) : Option ((List (S41))) := if a2 < 0 then (stable_Offers.j0 k l1 a2 ([] : List (S41)) true l0_0 l0_1 l0_2) else (stable_Offers.j0 k l1 a2 ([] : List (S41)) (decide (a2 ≥ (l0_2.length : Int))) l0_0 l0_1 l0_2)
theorem stable_Offers.mono_l : ∀ k, (∀ y0 y1 y2 y3 y4 y5 y6, LeO (stable_Offers.j0 k y0 y1 y2 y3 y4 y5 y6) (stable_Offers.j0 (k + 1) y0 y1 y2 y3 y4 y5 y6)) ∧ (∀ y0 y1 y2 y3 y4, LeO (stable_Offers.l0 k y0 y1 y2 y3 y4) (stable_Offers.l0 (k + 1) y0 y1 y2 y3 y4))
 | 0 => ⟨fun _ _ _ _ _ _ _ r h => by simp [stable_Offers.j0] at h, fun _ _ _ _ _ r h => by simp [stable_Offers.l0] at h⟩
 | k + 1 => by
  obtain ⟨ih0, ih1⟩ := stable_Offers.mono_l k
  refine ⟨?_, ?_⟩
  ·intro y0 y1 y2 y3 y4 y5 y6
   unfold stable_Offers.j0
   repeat' first
   | (with_reducible exact ih0 _ _ _ _ _ _ _)
   | (with_reducible exact ih1 _ _ _ _ _)
   | (with_reducible exact edge_Take.mono _ _ _ _ _ _ _ _ _)
   | (with_reducible exact LeO.refl _)
   | (with_reducible exact LeO.none _)
   | (with_reducible refine LeO.ite ?_ ?_)
   | (with_reducible refine LeO.bind ?_ (fun _ => ?_))
   | exact ih0 _ _ _ _ _ _ _
   | exact ih1 _ _ _ _ _
   | exact edge_Take.mono _ _ _ _ _ _ _ _ _
   | exact LeO.none _
   | refine LeO.ite ?_ ?_
   | refine LeO.bind ?_ (fun _ => ?_)
  ·intro y0 y1 y2 y3 y4
   unfold stable_Offers.l0
   repeat' first
   | (with_reducible exact ih0 _ _ _ _ _ _ _)
   | (with_reducible exact ih1 _ _ _ _ _)
   | (with_reducible exact edge_Take.mono _ _ _ _ _ _ _ _ _)
   | (with_reducible exact LeO.refl _)
   | (with_reducible exact LeO.none _)
   | (with_reducible refine LeO.ite ?_ ?_)
   | (with_reducible refine LeO.bind ?_ (fun _ => ?_))
   | exact ih0 _ _ _ _ _ _ _
   | exact ih1 _ _ _ _ _
   | exact edge_Take.mono _ _ _ _ _ _ _ _ _
   | exact LeO.none _
   | refine LeO.ite ?_ ?_
   | refine LeO.bind ?_ (fun _ => ?_)
theorem stable_Offers.mono : ∀ a0 a1 a2 a3 a4 k, LeO (stable_Offers.f k a0 a1 a2 a3 a4) (stable_Offers.f (k + 1) a0 a1 a2 a3 a4) := by
 intro a0 a1 a2 a3 a4 k
 obtain ⟨ih0, ih1⟩ := stable_Offers.mono_l k
 unfold stable_Offers.f
 repeat' first
   | (with_reducible exact ih0 _ _ _ _ _ _ _)
   | (with_reducible exact ih1 _ _ _ _ _)
   | (with_reducible exact edge_Take.mono _ _ _ _ _ _ _ _ _)
   | (with_reducible exact LeO.refl _)
   | (with_reducible exact LeO.none _)
   | (with_reducible refine LeO.ite ?_ ?_)
   | (with_reducible refine LeO.bind ?_ (fun _ => ?_))
   | exact ih0 _ _ _ _ _ _ _
   | exact ih1 _ _ _ _ _
   | exact edge_Take.mono _ _ _ _ _ _ _ _ _
   | exact LeO.none _
   | refine LeO.ite ?_ ?_
   | refine LeO.bind ?_ (fun _ => ?_)
def stable_Offers.T9 : Bool × List (List Nat × List Nat) := (true, [([], []), ([], []), ([], []), ([2], [2]), ([1, 3], [1, 3]), ([4], [4]), ([0, 5], [0, 5]), ([6, 6, 0, 1, 2, 3, 4, 5, 6], [6])])
def stable_Offers.B9 : List Nat := [0, 0, 0, 4, 14, 30, 63, 127]
theorem stable_Offers.tab9 : rtab .any (opsOf Try.f15 9) = stable_Offers.T9 := by kernel_rfl
theorem stable_Offers.bits9 : waitsOk stable_Offers.T9.2 stable_Offers.B9 = true := by kernel_rfl
set_option maxHeartbeats 8000000 in
set_option maxRecDepth 100000 in
theorem stable_Offers.calls (k : Nat) (A0_0 : Option Addr) (c0_0 : Nat) (l0_0 : List Bool) (A0_1 : Option Addr) (c0_1 : Nat) (l0_1 : List Int) (A0_2 : Option Addr) (c0_2 : Nat) (l0_2 : List (List (S51))) (A1 : Option Addr) (c1 : Nat) (l1 : List (S41)) (a2 : Int) (r : List (S41)) (w : World) (hr0_0 : Kd.C Kd.bool w A0_0 l0_0.length l0_0) (hc0_0 : l0_0.length ≤ c0_0) (hr0_1 : Kd.C (Kd.int .i64) w A0_1 l0_1.length l0_1) (hc0_1 : l0_1.length ≤ c0_1) (hr0_2 : Kd.C (Kd.slice 51 k51) w A0_2 l0_2.length l0_2) (hc0_2 : l0_2.length ≤ c0_2) (hr1 : Kd.C k41 w A1 l1.length l1) (hc1 : l1.length ≤ c1) (h : stable_Offers.f k l0_0 l0_1 l0_2 l1 a2 = some r) :
  Calls Try.prog 15 #[.agg #[.slice A0_0 l0_0.length c0_0, .slice A0_1 l0_1.length c0_1, .slice A0_2 l0_2.length c0_2], .slice A1 l1.length c1, .int .i64 a2] w fun e w' => ∃ v0_ : Value, e = .returned (v0_) ∧ Kd.R k41 41 w' w.heap.size (fun _ => True) v0_ r ∧ Below w.heap.size w w' := by
 have hu32 := Try.underlying32
 have hu51 := Try.underlying51
 have hu41 := Try.underlying41
 have HR0_0 := Aside0.mk hr0_0
 have HC0_0 := Aside0.mk hc0_0
 clear hr0_0 hc0_0
 have HR0_1 := Aside0.mk hr0_1
 have HC0_1 := Aside0.mk hc0_1
 clear hr0_1 hc0_1
 have HR0_2 := Aside0.mk hr0_2
 have HC0_2 := Aside0.mk hc0_2
 clear hr0_2 hc0_2
 have HR1 := Aside0.mk hr1
 have HC1 := Aside0.mk hc1
 clear hr1 hc1
 have HB := Aside0.mk (Below.refl w.heap.size w)
 have H : (if a2 < 0 then (stable_Offers.j0 k l1 a2 ([] : List (S41)) true l0_0 l0_1 l0_2) else (stable_Offers.j0 k l1 a2 ([] : List (S41)) (decide (a2 ≥ (l0_2.length : Int))) l0_0 l0_1 l0_2)) = some r := h
 clear h
 have HC4 := Aside0.mk H
 clear H
 go_enter Try.func15, Try.ntmps15
 go_upto_region 2 with (first | ((with_reducible refine gate_dst (N := 3) rfl ?_); (try (refine gate_guard (by rfl) ?_; dsimp only)); refine bx 3 (cs := #[.slice A0_0 l0_0.length c0_0, .slice A0_1 l0_1.length c0_1, .slice A0_2 l0_2.length c0_2]) (t := 32) (h := ?_); intro gb143 hg w5 hbox hb; have BK143 := Aside0.mk hbox; have GW143 : Aside0 (w.heap.size ≤ gb143) := bge hg; have GE143 : Aside0 (w.heap.size ≤ gb143) := bge hg; replace HB := bst hb; clear hb hbox hg))
 (try simp only [Act.put, List.setIfInBounds_toArray, List.set_cons_zero, List.set_cons_succ])
 go_cut [19] (fun v19 wc => ∃ (kq : Nat) (x19_3 : Bool), v19 = .bool x19_3 ∧ Aside0 (stable_Offers.j0 kq l1 a2 ([] : List (S41)) x19_3 l0_0 l0_1 l0_2 = some r) ∧ Aside0 (kq ≤ k) ∧ Aside0 (Kd.R k41 41 wc w.heap.size (fun _ => True) (.slice none 0 0) ([] : List (S41))) ∧ Aside0 (wc.heap[gb143]? = some (.cells #[(.slice A0_0 l0_0.length c0_0), (.slice A0_1 l0_1.length c0_1), (.slice A0_2 l0_2.length c0_2)] 32 (0, 0))) ∧ Aside0 (Below w.heap.size w wc))
 case first =>
  have H := HC4.out
  clear HC4
  by_cases c6 : a2 < 0
  ·rw [if_pos c6] at H
   have c6b0 : decide (a2 < 0) = true := decide_eq_true c6
   clear c6
   (first | rw [c6b0] | (simp only [i64_w, i32_w]; rw [c6b0]) | skip)
   have H' := Aside0.mk H
   clear H
   go_wp2
   go_meet
   case rel => exact ⟨_, (true), (by first | rfl | (simp; done) | (simp [*]; done)), H', ⟨by first | omega | exact Nat.le_refl _⟩, ⟨by first | exact Kd.R_nil _ _ _ _ _ | exact Kd.N_nil _ _ _ _ _ | exact Kd.V_nil _ _ _ _ _ | exact Kd.Q_nil _ _ _ _ _ | exact Kd.S_nil _ _ _ _ _⟩, ⟨bkq BK143⟩, ⟨by repeat (first | (with_reducible first | exact HB.out | apply below_alloc | apply pw_below_drewN | apply below_drew1 | refine below_set ?_ GE143.out) | exact HB.out)⟩⟩
  ·rw [if_neg c6] at H
   have c6b0 : decide (a2 < 0) = false := decide_eq_false c6
   clear c6
   (first | rw [c6b0] | (simp only [i64_w, i32_w]; rw [c6b0]) | skip)
   have H' := Aside0.mk H
   clear H
   obtain ⟨hcz7_0, hcz7_1, hcz7_2, hfz7_0, hfz7_1, hfz7_2⟩ := bc3 BK143
   go_wp2
   go_meet
   case rel => exact ⟨_, (decide (a2 ≥ (l0_2.length : Int))), (by first | rfl | (simp; done) | (simp [*]; done)), H', ⟨by first | omega | exact Nat.le_refl _⟩, ⟨by first | exact Kd.R_nil _ _ _ _ _ | exact Kd.N_nil _ _ _ _ _ | exact Kd.V_nil _ _ _ _ _ | exact Kd.Q_nil _ _ _ _ _ | exact Kd.S_nil _ _ _ _ _⟩, ⟨bkq BK143⟩, ⟨by repeat (first | (with_reducible first | exact HB.out | apply below_alloc | apply pw_below_drewN | apply below_drew1 | refine below_set ?_ GE143.out) | exact HB.out)⟩⟩
 case rest =>
  clear HC4
  try clear c1
  try clear p2
  try clear c6
  try clear c6b0
  try clear hcz7_0 hcz7_1 hcz7_2 hfz7_0 hfz7_1 hfz7_2
  obtain ⟨kq, x19_3, rfl, HA, HJ3, HO_7, BK143, HB⟩ := hcut
  cases kq with
  | zero => exact absurd HA.out (by simp [stable_Offers.j0])
  | succ kj3 =>
   have H := HA.out
   clear HA
   simp only [stable_Offers.j0] at H
   by_cases c8 : x19_3 = true
   ·subst c8
    have H1 : (some ([] : List (S41))) = some r := by rw [if_pos rfl] at H; exact H
    clear H
    have H := H1
    clear H1
    obtain rfl := Option.some.inj H
    go_wp2
    go_ret
    exact ⟨_, by first | rfl | (simp [errW_none, errW_some] <;> rfl) | (simp [*, errW_none, errW_some] <;> rfl), by first | exact Kd.R_nil _ _ _ _ _ | exact Kd.N_nil _ _ _ _ _ | exact Kd.V_nil _ _ _ _ _ | exact Kd.Q_nil _ _ _ _ _ | exact Kd.S_nil _ _ _ _ _, by repeat (first | (with_reducible first | exact HB.out | apply below_alloc | apply pw_below_drewN | apply below_drew1 | refine below_set ?_ GE143.out) | exact HB.out)⟩
   ·replace c8 := Bool.eq_false_iff.mpr c8
    subst c8
    have H1 : (if 0 ≤ a2 then (if a2 < (l0_2.length : Int) then (stable_Offers.l0 kj3 l1 ([] : List (S41)) (rd_L10 l0_2 a2) ((rd_L10 l0_2 a2).length : Int) 0) else (none)) else (none)) = some r := by rw [if_neg (show ¬ (false = true) by decide)] at H; exact H
    clear H
    have H := H1
    clear H1
    by_cases c9 : 0 ≤ a2
    ·rw [if_pos c9] at H
     have c9b0 : decide (0 ≤ a2) = true := decide_eq_true c9
     clear c9
     by_cases c10 : a2 < (l0_2.length : Int)
     ·rw [if_pos c10] at H
      have c10b0 : decide (a2 < (l0_2.length : Int)) = true := decide_eq_true c10
      clear c10
      have H' := Aside0.mk H
      clear H
      obtain ⟨hcz11_0, hcz11_1, hcz11_2, hfz11_0, hfz11_1, hfz11_2⟩ := bc3 BK143
      have p144 : 0 ≤ (a2 : Int) := of_decide_eq_true (by first | (with_reducible assumption) | assumption)
      have q144 : a2 < (l0_2.length : Int) := of_decide_eq_true (by first | (with_reducible assumption) | assumption)
      obtain ⟨ad144, A144_0, c144_0, e144, hx144_0, hl144_0, hi144_0⟩ := at_L10 HR0_2.out a2 p144 q144
      cases e144
      replace hx144_0 := (HB.out.cell (World.block_lt_of_cell? w _ hx144_0)).trans hx144_0
      have HR144_0 := Aside0.mk hi144_0
      have HC144_0 := Aside0.mk hl144_0
      clear hi144_0 hl144_0
      replace p144 := eq_true p144
      replace q144 := eq_true q144
      go_wp2
      go_loopg [7, 26] kj3 (fun kq v7 v26 w' => ∃ (x7_2 : List (S41)) (x26_2 : Int), v26 = .int .i64 x26_2 ∧ Aside0 (stable_Offers.l0 kq l1 x7_2 (rd_L10 l0_2 a2) ((rd_L10 l0_2 a2).length : Int) x26_2 = some r) ∧ Aside0 (kq ≤ kj3) ∧ Aside0 (Kd.R k41 41 w' w.heap.size (fun _ => True) v7 x7_2) ∧ Aside0 (w'.heap[gb143]? = some (.cells #[(.slice A0_0 l0_0.length c0_0), (.slice A0_1 l0_1.length c0_1), (.slice (some ad144) l0_2.length c0_2)] 32 (0, 0))) ∧ Aside0 (Below w.heap.size w w'))
      case atStart => exact ⟨(([] : List (S41))), (0), (by first | rfl | (simp; done) | (simp [*]; done)), H', ⟨Nat.le_refl _⟩, ⟨by (with_reducible repeat (first | apply Kd.R_alloc | apply Kd.R_drewN | apply Kd.R_drew)); exact HO_7.out⟩, ⟨bkq BK143⟩, ⟨by repeat (first | (with_reducible first | exact HB.out | apply below_alloc | apply pw_below_drewN | apply below_drew1 | refine below_set ?_ GE143.out) | exact HB.out)⟩⟩
      case round =>
       clear H'
       try clear c1
       try clear p1
       try clear q1
       try clear hx1
       try clear p2 p2
       try clear c6
       try clear c6b0
       try clear c8
       try clear c9
       try clear c9b0
       try clear c10
       try clear c10b0
       try clear hcz11_0 hcz11_1 hcz11_2 hfz11_0 hfz11_1 hfz11_2
       try clear hcz7_0 hcz7_1 hcz7_2 hfz7_0 hfz7_1 hfz7_2
       try clear hx144_0
       try clear p144
       try clear q144
       obtain ⟨x7_2, x26_2, rfl, HA, HK2, HO_7, BK143, HB⟩ := hrel
       cases gk with
       | zero => exact absurd HA.out (by simp [stable_Offers.l0])
       | succ k2 =>
        have H := HA.out
        clear HA
        simp only [stable_Offers.l0] at H
        by_cases c12 : x26_2 < ((rd_L10 l0_2 a2).length : Int)
        ·rw [if_pos c12] at H
         have c12b0 : decide (x26_2 < ((rd_L10 l0_2 a2).length : Int)) = true := decide_eq_true c12
         clear c12
         by_cases c13 : 0 ≤ x26_2
         ·rw [if_pos c13] at H
          have c13b0 : decide (0 ≤ x26_2) = true := decide_eq_true c13
          clear c13
          by_cases c14 : x26_2 < ((rd_L10 l0_2 a2).length : Int)
          ·rw [if_pos c14] at H
           have c14b0 : decide (x26_2 < ((rd_L10 l0_2 a2).length : Int)) = true := decide_eq_true c14
           clear c14
           by_cases c15 : ((rd_T51 (rd_L10 l0_2 a2) x26_2).f0) ≥ 0
           ·rw [if_pos c15] at H
            have c15b0 : decide (0 ≤ ((rd_T51 (rd_L10 l0_2 a2) x26_2).f0)) = true := decide_eq_true c15
            clear c15
            by_cases c16 : ((rd_T51 (rd_L10 l0_2 a2) x26_2).f0) < (l1.length : Int)
            ·rw [if_pos c16] at H
             have c16b0 : decide (((rd_T51 (rd_L10 l0_2 a2) x26_2).f0) < (l1.length : Int)) = true := decide_eq_true c16
             clear c16
             by_cases c17 : 0 ≤ ((rd_T51 (rd_L10 l0_2 a2) x26_2).f0)
             ·rw [if_pos c17] at H
              have c17b0 : decide (0 ≤ ((rd_T51 (rd_L10 l0_2 a2) x26_2).f0)) = true := decide_eq_true c17
              clear c17
              replace H := Option.bind_eq_some_iff.mp H
              obtain ⟨⟨t149, t150, t151, t152⟩, A180, H⟩ := H
              replace H : (if x7_2.length < 4398046511104 then (stable_Offers.l0 k2 l1 (x7_2 ++ [(⟨t149, t150, t151, t152⟩ : S41)]) (rd_L10 l0_2 a2) ((rd_L10 l0_2 a2).length : Int) (wrap64 (x26_2 + 1))) else (none)) = some r := H
              have A18 := Aside0.mk A180
              clear A180
              by_cases c19 : x7_2.length < 4398046511104
              ·rw [if_pos c19] at H
               have LMc19 := Aside0.mk c19
               clear c19
               obtain ⟨y153, hy153⟩ : ∃ y_ : List (S41), y_ = (x7_2 ++ [(⟨t149, t150, t151, t152⟩ : S41)]) := ⟨_, rfl⟩
               replace H : (stable_Offers.l0 k2 l1 y153 (rd_L10 l0_2 a2) ((rd_L10 l0_2 a2).length : Int) (wrap64 (x26_2 + 1))) = some r := by first | (rw [hy153]; with_reducible exact H) | (have H2_ := (Option.bind_some _ _).symm.trans H; rw [hy153]; with_reducible exact H2_) | (have H2_ := (Option.bind_some _ _).symm.trans H; with_reducible exact H2_) | with_reducible exact H | (rw [hy153]; exact H) | exact H
               have Ny153 := Aside0.mk hy153
               clear hy153
               have H' := Aside0.mk H
               clear H
               have p145 : 0 ≤ (x26_2 : Int) := of_decide_eq_true (by first | (with_reducible assumption) | assumption)
               have q145 : x26_2 < ((rd_L10 l0_2 a2).length : Int) := of_decide_eq_true (by first | (with_reducible assumption) | assumption)
               obtain ⟨ad145, A145_2, c145_2, A145_3, c145_3, e145, hx145_0, hx145_1, hx145_2, hx145_3, hl145_2, hi145_2, hl145_3, hi145_3⟩ := at_T51 HR144_0.out x26_2 p145 q145
               cases e145
               replace hx145_0 := (HB.out.cell (World.block_lt_of_cell? w _ hx145_0)).trans hx145_0
               replace hx145_1 := (HB.out.cell (World.block_lt_of_cell? w _ hx145_1)).trans hx145_1
               replace hx145_2 := (HB.out.cell (World.block_lt_of_cell? w _ hx145_2)).trans hx145_2
               replace hx145_3 := (HB.out.cell (World.block_lt_of_cell? w _ hx145_3)).trans hx145_3
               have HR145_2 := Aside0.mk hi145_2
               have HC145_2 := Aside0.mk hl145_2
               clear hi145_2 hl145_2
               have HR145_3 := Aside0.mk hi145_3
               have HC145_3 := Aside0.mk hl145_3
               clear hi145_3 hl145_3
               replace p145 := eq_true p145
               replace q145 := eq_true q145
               try go_wp2_with (first | ((with_reducible refine gate_dst (N := 9) rfl ?_); (try (refine gate_guard (by rfl) ?_; dsimp only)); refine bx 9 (cs := #[.int .i64 0, .int .i64 0, .slice none 0 0, .slice none 0 0]) (t := 51) (h := ?_); intro gb146 hg w20 hbox hb; have BK146 := Aside0.mk hbox; have GW146 : Aside0 (w.heap.size ≤ gb146) := bge hg; have GE146 : Aside0 (w.heap.size ≤ gb146) := bge hg; have NB143_146 := bne BK143 hg; have NB146_143 := bnf BK143 hg; replace HO_7 := Aside0.mk (Kd.R_below (kR HO_7) hb); replace BK143 := bkb BK143 hb; replace HB := bst hb; clear hb hbox hg; have hnb21 := NB146_143.out; have hnc21 := NB143_146.out; obtain ⟨hcz22_0, hcz22_1, hcz22_2, hcz22_3, hfz22_0, hfz22_1, hfz22_2, hfz22_3⟩ := bc4 BK146) | ((with_reducible refine gate_dst (N := 10) rfl ?_); (try (refine gate_guard (by rfl) ?_; dsimp only)); refine bx 10 (cs := #[.bool false, .int .i64 0, .int .i64 0, .int .u8 0]) (t := 41) (h := ?_); intro gb147 hg w23 hbox hb; have BK147 := Aside0.mk hbox; have GW147 : Aside0 (w.heap.size ≤ gb147) := bge hg; have GE147 : Aside0 (w.heap.size ≤ gb147) := bge hg; have NB143_147 := bne BK143 hg; have NB147_143 := bnf BK143 hg; have NB146_147 := Aside0.mk ((by rw [hg]; exact Nat.ne_of_lt (blk_lt (g := gb146) (o := .cells #[.int .i64 ((rd_T51 (rd_L10 l0_2 a2) x26_2).f0), .int .i64 ((rd_T51 (rd_L10 l0_2 a2) x26_2).f1), .slice A145_2 ((rd_T51 (rd_L10 l0_2 a2) x26_2).f2).length c145_2, .slice A145_3 ((rd_T51 (rd_L10 l0_2 a2) x26_2).f3).length c145_3] 51 (0, 0)) (bkp BK146)) : gb146 ≠ gb147)); have NB147_146 := Aside0.mk ((by rw [hg]; exact Nat.ne_of_gt (blk_lt (g := gb146) (o := .cells #[.int .i64 ((rd_T51 (rd_L10 l0_2 a2) x26_2).f0), .int .i64 ((rd_T51 (rd_L10 l0_2 a2) x26_2).f1), .slice A145_2 ((rd_T51 (rd_L10 l0_2 a2) x26_2).f2).length c145_2, .slice A145_3 ((rd_T51 (rd_L10 l0_2 a2) x26_2).f3).length c145_3] 51 (0, 0)) (bkp BK146)) : gb147 ≠ gb146)); replace HO_7 := Aside0.mk (Kd.R_below (Kd.R_elderB (by (with_reducible repeat (first | apply Kd.R_alloc | apply Kd.R_drewN | apply Kd.R_drew)); exact (Kd.R_mono (Kd.R_far (p := ⟨gb146, 3, none⟩) (Kd.R_far (p := ⟨gb146, 2, none⟩) (Kd.R_far (p := ⟨gb146, 1, none⟩) (Kd.R_far (p := ⟨gb146, 0, none⟩) (Kd.R_types HO_7.out BK146.out (by decide)) (fun _ hk => hk.2) (.int .i64 ((rd_T51 (rd_L10 l0_2 a2) x26_2).f0))) (fun _ hk => hk.2) (.int .i64 ((rd_T51 (rd_L10 l0_2 a2) x26_2).f1))) (fun _ hk => hk.2) (.slice A145_2 ((rd_T51 (rd_L10 l0_2 a2) x26_2).f2).length c145_2)) (fun _ hk => hk.2) (.slice A145_3 ((rd_T51 (rd_L10 l0_2 a2) x26_2).f3).length c145_3)) (fun _ h_ => h_.1))) gb147 (Nat.le_of_eq hg.symm)) hb); replace BK143 := bkb BK143 hb; replace BK146 := Aside0.mk (blk_below (g := gb146) (o := .cells #[.int .i64 ((rd_T51 (rd_L10 l0_2 a2) x26_2).f0), .int .i64 ((rd_T51 (rd_L10 l0_2 a2) x26_2).f1), .slice A145_2 ((rd_T51 (rd_L10 l0_2 a2) x26_2).f2).length c145_2, .slice A145_3 ((rd_T51 (rd_L10 l0_2 a2) x26_2).f3).length c145_3] 51 (0, 0)) (bkp BK146) hb); replace HB := bst hb; clear hb hbox hg; have hnb24 := NB146_147.out; have hnc24 := NB147_146.out; obtain ⟨hcz25_0, hcz25_1, hcz25_2, hcz25_3, hfz25_0, hfz25_1, hfz25_2, hfz25_3⟩ := bc4 BK146))
               replace HO_7 := Aside0.mk (Kd.R_drew HO_7.out)
               replace BK143 := Aside0.mk (blk_drew BK143.out)
               replace BK146 := Aside0.mk (blk_drew BK146.out)
               replace BK147 := Aside0.mk (blk_drew BK147.out)
               replace HB := Aside0.mk (below_drew1 HB.out)
               have p148 : 0 ≤ (((rd_T51 (rd_L10 l0_2 a2) x26_2).f0) : Int) := of_decide_eq_true (by first | (with_reducible assumption) | assumption)
               have q148 : ((rd_T51 (rd_L10 l0_2 a2) x26_2).f0) < (l1.length : Int) := of_decide_eq_true (by first | (with_reducible assumption) | assumption)
               obtain ⟨ad148, e148, hx148_0, hx148_1, hx148_2, hx148_3⟩ := at_T41 HR1.out ((rd_T51 (rd_L10 l0_2 a2) x26_2).f0) p148 q148
               have hw148_3 := hx148_3
               have hw148_2 := hx148_2
               have hw148_1 := hx148_1
               have hw148_0 := hx148_0
               cases e148
               replace hx148_0 := (HB.out.cell (World.block_lt_of_cell? w _ hx148_0)).trans hx148_0
               replace hx148_1 := (HB.out.cell (World.block_lt_of_cell? w _ hx148_1)).trans hx148_1
               replace hx148_2 := (HB.out.cell (World.block_lt_of_cell? w _ hx148_2)).trans hx148_2
               replace hx148_3 := (HB.out.cell (World.block_lt_of_cell? w _ hx148_3)).trans hx148_3
               replace p148 := eq_true p148
               replace q148 := eq_true q148
               refine start_ (n := 8) (S := fun w' => w'.cell? ⟨gb146, 0, none⟩ = some (.int .i64 ((rd_T51 (rd_L10 l0_2 a2) x26_2).f0)) ∧ w'.cell? ⟨gb146, 1, none⟩ = some (.int .i64 ((rd_T51 (rd_L10 l0_2 a2) x26_2).f1)) ∧ w'.cell? ⟨gb146, 2, none⟩ = some (.slice A145_2 ((rd_T51 (rd_L10 l0_2 a2) x26_2).f2).length c145_2) ∧ w'.cell? ⟨gb146, 3, none⟩ = some (.slice A145_3 ((rd_T51 (rd_L10 l0_2 a2) x26_2).f3).length c145_3) ∧ w'.cell? (ad148.add ((((rd_T51 (rd_L10 l0_2 a2) x26_2).f0)).toNat * 4)) = some (.bool ((rd_T41 l1 ((rd_T51 (rd_L10 l0_2 a2) x26_2).f0)).f0)) ∧ w'.cell? ⟨(ad148.add ((((rd_T51 (rd_L10 l0_2 a2) x26_2).f0)).toNat * 4)).block, (ad148.add ((((rd_T51 (rd_L10 l0_2 a2) x26_2).f0)).toNat * 4)).off + 1, none⟩ = some (.int .i64 ((rd_T41 l1 ((rd_T51 (rd_L10 l0_2 a2) x26_2).f0)).f1)) ∧ w'.cell? ⟨(ad148.add ((((rd_T51 (rd_L10 l0_2 a2) x26_2).f0)).toNat * 4)).block, (ad148.add ((((rd_T51 (rd_L10 l0_2 a2) x26_2).f0)).toNat * 4)).off + 2, none⟩ = some (.int .i64 ((rd_T41 l1 ((rd_T51 (rd_L10 l0_2 a2) x26_2).f0)).f2)) ∧ w'.cell? ⟨(ad148.add ((((rd_T51 (rd_L10 l0_2 a2) x26_2).f0)).toNat * 4)).block, (ad148.add ((((rd_T51 (rd_L10 l0_2 a2) x26_2).f0)).toNat * 4)).off + 3, none⟩ = some (.int .u8 ((rd_T41 l1 ((rd_T51 (rd_L10 l0_2 a2) x26_2).f0)).f3))) (ds := []) #[false, false, false, false, false, false, false, false] (by kernel_rfl) rfl rfl ⟨(blk_cell BK146.out 0).trans rfl, (blk_cell BK146.out 1).trans rfl, (blk_cell BK146.out 2).trans rfl, (blk_cell BK146.out 3).trans rfl, ((HB.out.cell (World.block_lt_of_cell? w _ hw148_0)).trans hw148_0), ((HB.out.cell (World.block_lt_of_cell? w _ hw148_1)).trans hw148_1), ((HB.out.cell (World.block_lt_of_cell? w _ hw148_2)).trans hw148_2), ((HB.out.cell (World.block_lt_of_cell? w _ hw148_3)).trans hw148_3)⟩ (fun hHeld => ?_); refine with_tabW stable_Offers.tab9 stable_Offers.bits9 (fun HT_ HW_ => ?_)
               generalize w23.drew = w26 at HO_7 BK143 BK146 BK147 HB hx148_0 hx148_1 hx148_2 hx148_3 hHeld ⊢
               refine pu HT_ 1 (some 41) (mk 8 2) ?_
               refine pu HT_ 2 (some 42) (mk 8 6) ?_
               refine tk HT_ HW_ 0 (some 40) (mk 8 7) hHeld ?_
               refine tk HT_ HW_ 3 (some 43) (mk 8 15) hHeld ?_
               refine pu HT_ 4 (some 44) (mk 8 31) ?_
               refine tk HT_ HW_ 5 (some 45) (mk 8 63) hHeld ?_
               refine on HT_ 6 (some 46) (mk 8 127) fun K hK => ?_
               refine go1 Try.func32 #[.agg #[.int .i64 ((rd_T51 (rd_L10 l0_2 a2) x26_2).f0), .int .i64 ((rd_T51 (rd_L10 l0_2 a2) x26_2).f1), .slice A145_2 ((rd_T51 (rd_L10 l0_2 a2) x26_2).f2).length c145_2, .slice A145_3 ((rd_T51 (rd_L10 l0_2 a2) x26_2).f3).length c145_3], .agg #[.bool ((rd_T41 l1 ((rd_T51 (rd_L10 l0_2 a2) x26_2).f0)).f0), .int .i64 ((rd_T41 l1 ((rd_T51 (rd_L10 l0_2 a2) x26_2).f0)).f1), .int .i64 ((rd_T41 l1 ((rd_T51 (rd_L10 l0_2 a2) x26_2).f0)).f2), .int .u8 ((rd_T41 l1 ((rd_T51 (rd_L10 l0_2 a2) x26_2).f0)).f3)]] ?_
               with_reducible refine (edge_Take.calls k2 ((rd_T51 (rd_L10 l0_2 a2) x26_2).f0) ((rd_T51 (rd_L10 l0_2 a2) x26_2).f1) _ _ ((rd_T51 (rd_L10 l0_2 a2) x26_2).f2) _ _ ((rd_T51 (rd_L10 l0_2 a2) x26_2).f3) ((rd_T41 l1 ((rd_T51 (rd_L10 l0_2 a2) x26_2).f0)).f0) ((rd_T41 l1 ((rd_T51 (rd_L10 l0_2 a2) x26_2).f0)).f1) ((rd_T41 l1 ((rd_T51 (rd_L10 l0_2 a2) x26_2).f0)).f2) ((rd_T41 l1 ((rd_T51 (rd_L10 l0_2 a2) x26_2).f0)).f3) t149 t150 t151 t152 _ ?side1 ?side2 ?side3 ?side4 A18.out).mono ?_
               (case side1 => repeat (first | exact (Kd.C_below HR145_2.out HB.out) | (with_reducible refine Kd.C_alloc ?_ _) | (with_reducible refine Kd.C_drewN ?_ _) | (with_reducible refine Kd.C_drew ?_)))
               (case side2 => exact HC145_2.out)
               (case side3 => repeat (first | exact (Kd.C_below HR145_3.out HB.out) | (with_reducible refine Kd.C_alloc ?_ _) | (with_reducible refine Kd.C_drewN ?_ _) | (with_reducible refine Kd.C_drew ?_)))
               (case side4 => exact HC145_3.out)
               rintro e w27 ⟨rfl, hb⟩
               refine ⟨_, rfl, ?_⟩
               replace HO_7 := Aside0.mk (Kd.R_below (kR HO_7) hb)
               replace BK143 := bkb BK143 hb
               replace BK146 := bkb BK146 hb
               replace BK147 := bkb BK147 hb
               replace HB := bst hb
               (try clear hb)
               (try clear hb2)
               (try clear hk)
               (try clear hi)
               refine hK.out _ _ ⟨(blk_cell BK146.out 0).trans rfl, (blk_cell BK146.out 1).trans rfl, (blk_cell BK146.out 2).trans rfl, (blk_cell BK146.out 3).trans rfl, ((HB.out.cell (World.block_lt_of_cell? w _ hw148_0)).trans hw148_0), ((HB.out.cell (World.block_lt_of_cell? w _ hw148_1)).trans hw148_1), ((HB.out.cell (World.block_lt_of_cell? w _ hw148_2)).trans hw148_2), ((HB.out.cell (World.block_lt_of_cell? w _ hw148_3)).trans hw148_3)⟩ (fun hHeld => ?_)
               clear hK K
               refine nm (some 46) ?_
               refine on HT_ 7 (none) (mk 8 255) fun K hK => ?_
               have hs28 : w27.cell? ⟨gb147, 0, none⟩ = some (.bool false) := (blk_cell BK147.out 0).trans rfl
               have hfs28 := blk_frozen BK147.out 0
               have hns28_0 := NB143_147.out
               have hns28_1 := NB146_147.out
               have hms28_0 := NB147_143.out
               have hms28_1 := NB147_146.out
               have hs29 : w27.cell? ⟨gb147, 1, none⟩ = some (.int .i64 0) := (blk_cell BK147.out 1).trans rfl
               have hfs29 := blk_frozen BK147.out 1
               have hns29_0 := NB143_147.out
               have hns29_1 := NB146_147.out
               have hms29_0 := NB147_143.out
               have hms29_1 := NB147_146.out
               have hs30 : w27.cell? ⟨gb147, 2, none⟩ = some (.int .i64 0) := (blk_cell BK147.out 2).trans rfl
               have hfs30 := blk_frozen BK147.out 2
               have hns30_0 := NB143_147.out
               have hns30_1 := NB146_147.out
               have hms30_0 := NB147_143.out
               have hms30_1 := NB147_146.out
               have hs31 : w27.cell? ⟨gb147, 3, none⟩ = some (.int .u8 0) := (blk_cell BK147.out 3).trans rfl
               have hfs31 := blk_frozen BK147.out 3
               have hns31_0 := NB143_147.out
               have hns31_1 := NB146_147.out
               have hms31_0 := NB147_143.out
               have hms31_1 := NB147_146.out
               refine skip_ (w1 := ?_) (by rfl) rfl ?_ ?_
               rotate_left
               ·go_simp
                rfl
               refine hK.out _ _ ⟨((cell_far (p := ⟨gb147, _, none⟩) NB146_147.out _).trans (((cell_far (p := ⟨gb147, _, none⟩) NB146_147.out _).trans (((cell_far (p := ⟨gb147, _, none⟩) NB146_147.out _).trans (((cell_far (p := ⟨gb147, _, none⟩) NB146_147.out _).trans (hHeld.1)))))))), ((cell_far (p := ⟨gb147, _, none⟩) NB146_147.out _).trans (((cell_far (p := ⟨gb147, _, none⟩) NB146_147.out _).trans (((cell_far (p := ⟨gb147, _, none⟩) NB146_147.out _).trans (((cell_far (p := ⟨gb147, _, none⟩) NB146_147.out _).trans (hHeld.2.1)))))))), ((cell_far (p := ⟨gb147, _, none⟩) NB146_147.out _).trans (((cell_far (p := ⟨gb147, _, none⟩) NB146_147.out _).trans (((cell_far (p := ⟨gb147, _, none⟩) NB146_147.out _).trans (((cell_far (p := ⟨gb147, _, none⟩) NB146_147.out _).trans (hHeld.2.2.1)))))))), ((cell_far (p := ⟨gb147, _, none⟩) NB146_147.out _).trans (((cell_far (p := ⟨gb147, _, none⟩) NB146_147.out _).trans (((cell_far (p := ⟨gb147, _, none⟩) NB146_147.out _).trans (((cell_far (p := ⟨gb147, _, none⟩) NB146_147.out _).trans (hHeld.2.2.2.1)))))))), ((cell_far (p := ⟨gb147, _, none⟩) (by first | exact Nat.ne_of_lt (Nat.lt_of_lt_of_le (by have := World.block_lt_of_cell? _ _ hw148_0; first | rwa [add_block] at this | exact this) GW147.out) | (rw [add_block]; exact Nat.ne_of_lt (Nat.lt_of_lt_of_le (by have := World.block_lt_of_cell? _ _ hw148_0; first | rwa [add_block] at this | exact this) GW147.out)) | (show (Addr.add _ _).block ≠ _; rw [add_block]; exact Nat.ne_of_lt (Nat.lt_of_lt_of_le (by have := World.block_lt_of_cell? _ _ hw148_0; first | rwa [add_block] at this | exact this) GW147.out)) | (dsimp only; exact Nat.ne_of_lt (Nat.lt_of_lt_of_le (by have := World.block_lt_of_cell? _ _ hw148_0; first | rwa [add_block] at this | exact this) GW147.out))) _).trans (((cell_far (p := ⟨gb147, _, none⟩) (by first | exact Nat.ne_of_lt (Nat.lt_of_lt_of_le (by have := World.block_lt_of_cell? _ _ hw148_0; first | rwa [add_block] at this | exact this) GW147.out) | (rw [add_block]; exact Nat.ne_of_lt (Nat.lt_of_lt_of_le (by have := World.block_lt_of_cell? _ _ hw148_0; first | rwa [add_block] at this | exact this) GW147.out)) | (show (Addr.add _ _).block ≠ _; rw [add_block]; exact Nat.ne_of_lt (Nat.lt_of_lt_of_le (by have := World.block_lt_of_cell? _ _ hw148_0; first | rwa [add_block] at this | exact this) GW147.out)) | (dsimp only; exact Nat.ne_of_lt (Nat.lt_of_lt_of_le (by have := World.block_lt_of_cell? _ _ hw148_0; first | rwa [add_block] at this | exact this) GW147.out))) _).trans (((cell_far (p := ⟨gb147, _, none⟩) (by first | exact Nat.ne_of_lt (Nat.lt_of_lt_of_le (by have := World.block_lt_of_cell? _ _ hw148_0; first | rwa [add_block] at this | exact this) GW147.out) | (rw [add_block]; exact Nat.ne_of_lt (Nat.lt_of_lt_of_le (by have := World.block_lt_of_cell? _ _ hw148_0; first | rwa [add_block] at this | exact this) GW147.out)) | (show (Addr.add _ _).block ≠ _; rw [add_block]; exact Nat.ne_of_lt (Nat.lt_of_lt_of_le (by have := World.block_lt_of_cell? _ _ hw148_0; first | rwa [add_block] at this | exact this) GW147.out)) | (dsimp only; exact Nat.ne_of_lt (Nat.lt_of_lt_of_le (by have := World.block_lt_of_cell? _ _ hw148_0; first | rwa [add_block] at this | exact this) GW147.out))) _).trans (((cell_far (p := ⟨gb147, _, none⟩) (by first | exact Nat.ne_of_lt (Nat.lt_of_lt_of_le (by have := World.block_lt_of_cell? _ _ hw148_0; first | rwa [add_block] at this | exact this) GW147.out) | (rw [add_block]; exact Nat.ne_of_lt (Nat.lt_of_lt_of_le (by have := World.block_lt_of_cell? _ _ hw148_0; first | rwa [add_block] at this | exact this) GW147.out)) | (show (Addr.add _ _).block ≠ _; rw [add_block]; exact Nat.ne_of_lt (Nat.lt_of_lt_of_le (by have := World.block_lt_of_cell? _ _ hw148_0; first | rwa [add_block] at this | exact this) GW147.out)) | (dsimp only; exact Nat.ne_of_lt (Nat.lt_of_lt_of_le (by have := World.block_lt_of_cell? _ _ hw148_0; first | rwa [add_block] at this | exact this) GW147.out))) _).trans (hHeld.2.2.2.2.1)))))))), ((cell_far (p := ⟨gb147, _, none⟩) (by first | exact Nat.ne_of_lt (Nat.lt_of_lt_of_le (by have := World.block_lt_of_cell? _ _ hw148_1; first | rwa [add_block] at this | exact this) GW147.out) | (rw [add_block]; exact Nat.ne_of_lt (Nat.lt_of_lt_of_le (by have := World.block_lt_of_cell? _ _ hw148_1; first | rwa [add_block] at this | exact this) GW147.out)) | (show (Addr.add _ _).block ≠ _; rw [add_block]; exact Nat.ne_of_lt (Nat.lt_of_lt_of_le (by have := World.block_lt_of_cell? _ _ hw148_1; first | rwa [add_block] at this | exact this) GW147.out)) | (dsimp only; exact Nat.ne_of_lt (Nat.lt_of_lt_of_le (by have := World.block_lt_of_cell? _ _ hw148_1; first | rwa [add_block] at this | exact this) GW147.out))) _).trans (((cell_far (p := ⟨gb147, _, none⟩) (by first | exact Nat.ne_of_lt (Nat.lt_of_lt_of_le (by have := World.block_lt_of_cell? _ _ hw148_1; first | rwa [add_block] at this | exact this) GW147.out) | (rw [add_block]; exact Nat.ne_of_lt (Nat.lt_of_lt_of_le (by have := World.block_lt_of_cell? _ _ hw148_1; first | rwa [add_block] at this | exact this) GW147.out)) | (show (Addr.add _ _).block ≠ _; rw [add_block]; exact Nat.ne_of_lt (Nat.lt_of_lt_of_le (by have := World.block_lt_of_cell? _ _ hw148_1; first | rwa [add_block] at this | exact this) GW147.out)) | (dsimp only; exact Nat.ne_of_lt (Nat.lt_of_lt_of_le (by have := World.block_lt_of_cell? _ _ hw148_1; first | rwa [add_block] at this | exact this) GW147.out))) _).trans (((cell_far (p := ⟨gb147, _, none⟩) (by first | exact Nat.ne_of_lt (Nat.lt_of_lt_of_le (by have := World.block_lt_of_cell? _ _ hw148_1; first | rwa [add_block] at this | exact this) GW147.out) | (rw [add_block]; exact Nat.ne_of_lt (Nat.lt_of_lt_of_le (by have := World.block_lt_of_cell? _ _ hw148_1; first | rwa [add_block] at this | exact this) GW147.out)) | (show (Addr.add _ _).block ≠ _; rw [add_block]; exact Nat.ne_of_lt (Nat.lt_of_lt_of_le (by have := World.block_lt_of_cell? _ _ hw148_1; first | rwa [add_block] at this | exact this) GW147.out)) | (dsimp only; exact Nat.ne_of_lt (Nat.lt_of_lt_of_le (by have := World.block_lt_of_cell? _ _ hw148_1; first | rwa [add_block] at this | exact this) GW147.out))) _).trans (((cell_far (p := ⟨gb147, _, none⟩) (by first | exact Nat.ne_of_lt (Nat.lt_of_lt_of_le (by have := World.block_lt_of_cell? _ _ hw148_1; first | rwa [add_block] at this | exact this) GW147.out) | (rw [add_block]; exact Nat.ne_of_lt (Nat.lt_of_lt_of_le (by have := World.block_lt_of_cell? _ _ hw148_1; first | rwa [add_block] at this | exact this) GW147.out)) | (show (Addr.add _ _).block ≠ _; rw [add_block]; exact Nat.ne_of_lt (Nat.lt_of_lt_of_le (by have := World.block_lt_of_cell? _ _ hw148_1; first | rwa [add_block] at this | exact this) GW147.out)) | (dsimp only; exact Nat.ne_of_lt (Nat.lt_of_lt_of_le (by have := World.block_lt_of_cell? _ _ hw148_1; first | rwa [add_block] at this | exact this) GW147.out))) _).trans (hHeld.2.2.2.2.2.1)))))))), ((cell_far (p := ⟨gb147, _, none⟩) (by first | exact Nat.ne_of_lt (Nat.lt_of_lt_of_le (by have := World.block_lt_of_cell? _ _ hw148_2; first | rwa [add_block] at this | exact this) GW147.out) | (rw [add_block]; exact Nat.ne_of_lt (Nat.lt_of_lt_of_le (by have := World.block_lt_of_cell? _ _ hw148_2; first | rwa [add_block] at this | exact this) GW147.out)) | (show (Addr.add _ _).block ≠ _; rw [add_block]; exact Nat.ne_of_lt (Nat.lt_of_lt_of_le (by have := World.block_lt_of_cell? _ _ hw148_2; first | rwa [add_block] at this | exact this) GW147.out)) | (dsimp only; exact Nat.ne_of_lt (Nat.lt_of_lt_of_le (by have := World.block_lt_of_cell? _ _ hw148_2; first | rwa [add_block] at this | exact this) GW147.out))) _).trans (((cell_far (p := ⟨gb147, _, none⟩) (by first | exact Nat.ne_of_lt (Nat.lt_of_lt_of_le (by have := World.block_lt_of_cell? _ _ hw148_2; first | rwa [add_block] at this | exact this) GW147.out) | (rw [add_block]; exact Nat.ne_of_lt (Nat.lt_of_lt_of_le (by have := World.block_lt_of_cell? _ _ hw148_2; first | rwa [add_block] at this | exact this) GW147.out)) | (show (Addr.add _ _).block ≠ _; rw [add_block]; exact Nat.ne_of_lt (Nat.lt_of_lt_of_le (by have := World.block_lt_of_cell? _ _ hw148_2; first | rwa [add_block] at this | exact this) GW147.out)) | (dsimp only; exact Nat.ne_of_lt (Nat.lt_of_lt_of_le (by have := World.block_lt_of_cell? _ _ hw148_2; first | rwa [add_block] at this | exact this) GW147.out))) _).trans (((cell_far (p := ⟨gb147, _, none⟩) (by first | exact Nat.ne_of_lt (Nat.lt_of_lt_of_le (by have := World.block_lt_of_cell? _ _ hw148_2; first | rwa [add_block] at this | exact this) GW147.out) | (rw [add_block]; exact Nat.ne_of_lt (Nat.lt_of_lt_of_le (by have := World.block_lt_of_cell? _ _ hw148_2; first | rwa [add_block] at this | exact this) GW147.out)) | (show (Addr.add _ _).block ≠ _; rw [add_block]; exact Nat.ne_of_lt (Nat.lt_of_lt_of_le (by have := World.block_lt_of_cell? _ _ hw148_2; first | rwa [add_block] at this | exact this) GW147.out)) | (dsimp only; exact Nat.ne_of_lt (Nat.lt_of_lt_of_le (by have := World.block_lt_of_cell? _ _ hw148_2; first | rwa [add_block] at this | exact this) GW147.out))) _).trans (((cell_far (p := ⟨gb147, _, none⟩) (by first | exact Nat.ne_of_lt (Nat.lt_of_lt_of_le (by have := World.block_lt_of_cell? _ _ hw148_2; first | rwa [add_block] at this | exact this) GW147.out) | (rw [add_block]; exact Nat.ne_of_lt (Nat.lt_of_lt_of_le (by have := World.block_lt_of_cell? _ _ hw148_2; first | rwa [add_block] at this | exact this) GW147.out)) | (show (Addr.add _ _).block ≠ _; rw [add_block]; exact Nat.ne_of_lt (Nat.lt_of_lt_of_le (by have := World.block_lt_of_cell? _ _ hw148_2; first | rwa [add_block] at this | exact this) GW147.out)) | (dsimp only; exact Nat.ne_of_lt (Nat.lt_of_lt_of_le (by have := World.block_lt_of_cell? _ _ hw148_2; first | rwa [add_block] at this | exact this) GW147.out))) _).trans (hHeld.2.2.2.2.2.2.1)))))))), ((cell_far (p := ⟨gb147, _, none⟩) (by first | exact Nat.ne_of_lt (Nat.lt_of_lt_of_le (by have := World.block_lt_of_cell? _ _ hw148_3; first | rwa [add_block] at this | exact this) GW147.out) | (rw [add_block]; exact Nat.ne_of_lt (Nat.lt_of_lt_of_le (by have := World.block_lt_of_cell? _ _ hw148_3; first | rwa [add_block] at this | exact this) GW147.out)) | (show (Addr.add _ _).block ≠ _; rw [add_block]; exact Nat.ne_of_lt (Nat.lt_of_lt_of_le (by have := World.block_lt_of_cell? _ _ hw148_3; first | rwa [add_block] at this | exact this) GW147.out)) | (dsimp only; exact Nat.ne_of_lt (Nat.lt_of_lt_of_le (by have := World.block_lt_of_cell? _ _ hw148_3; first | rwa [add_block] at this | exact this) GW147.out))) _).trans (((cell_far (p := ⟨gb147, _, none⟩) (by first | exact Nat.ne_of_lt (Nat.lt_of_lt_of_le (by have := World.block_lt_of_cell? _ _ hw148_3; first | rwa [add_block] at this | exact this) GW147.out) | (rw [add_block]; exact Nat.ne_of_lt (Nat.lt_of_lt_of_le (by have := World.block_lt_of_cell? _ _ hw148_3; first | rwa [add_block] at this | exact this) GW147.out)) | (show (Addr.add _ _).block ≠ _; rw [add_block]; exact Nat.ne_of_lt (Nat.lt_of_lt_of_le (by have := World.block_lt_of_cell? _ _ hw148_3; first | rwa [add_block] at this | exact this) GW147.out)) | (dsimp only; exact Nat.ne_of_lt (Nat.lt_of_lt_of_le (by have := World.block_lt_of_cell? _ _ hw148_3; first | rwa [add_block] at this | exact this) GW147.out))) _).trans (((cell_far (p := ⟨gb147, _, none⟩) (by first | exact Nat.ne_of_lt (Nat.lt_of_lt_of_le (by have := World.block_lt_of_cell? _ _ hw148_3; first | rwa [add_block] at this | exact this) GW147.out) | (rw [add_block]; exact Nat.ne_of_lt (Nat.lt_of_lt_of_le (by have := World.block_lt_of_cell? _ _ hw148_3; first | rwa [add_block] at this | exact this) GW147.out)) | (show (Addr.add _ _).block ≠ _; rw [add_block]; exact Nat.ne_of_lt (Nat.lt_of_lt_of_le (by have := World.block_lt_of_cell? _ _ hw148_3; first | rwa [add_block] at this | exact this) GW147.out)) | (dsimp only; exact Nat.ne_of_lt (Nat.lt_of_lt_of_le (by have := World.block_lt_of_cell? _ _ hw148_3; first | rwa [add_block] at this | exact this) GW147.out))) _).trans (((cell_far (p := ⟨gb147, _, none⟩) (by first | exact Nat.ne_of_lt (Nat.lt_of_lt_of_le (by have := World.block_lt_of_cell? _ _ hw148_3; first | rwa [add_block] at this | exact this) GW147.out) | (rw [add_block]; exact Nat.ne_of_lt (Nat.lt_of_lt_of_le (by have := World.block_lt_of_cell? _ _ hw148_3; first | rwa [add_block] at this | exact this) GW147.out)) | (show (Addr.add _ _).block ≠ _; rw [add_block]; exact Nat.ne_of_lt (Nat.lt_of_lt_of_le (by have := World.block_lt_of_cell? _ _ hw148_3; first | rwa [add_block] at this | exact this) GW147.out)) | (dsimp only; exact Nat.ne_of_lt (Nat.lt_of_lt_of_le (by have := World.block_lt_of_cell? _ _ hw148_3; first | rwa [add_block] at this | exact this) GW147.out))) _).trans (hHeld.2.2.2.2.2.2.2))))))))⟩ (fun hHeld => ?_)
               clear hK K
               refine done_ (done_of HT_.out (by kernel_rfl)) ?_
               have hnb32 := NB147_143.out
               have hnc32 := NB143_147.out
               obtain ⟨hcz33_0, hcz33_1, hcz33_2, hcz33_3, hfz33_0, hfz33_1, hfz33_2, hfz33_3⟩ := bc4 BK147
               try go_wp2_with (first | ((with_reducible refine gate_builtin (b := .append) (xs := #[.tmp 47, .tmp 49]) rfl ?_); (try (refine gate_guard (by rfl) ?_; dsimp only)); at_builtin; refine Kd.R_append k41 (w0 := w) w.heap.size rfl (.tmp 47) (.tmp 49) 38 41 (.agg #[(.bool false), (.int .i64 0), (.int .i64 0), (.int .u8 0)]) 32 rfl Try.underlying38 info41 rfl (by decide) (by omega) u7 x7_2 (⟨t149, t150, t151, t152⟩ : S41) [.bool t149, .int .i64 t150, .int .i64 t151, .int .u8 t152] (fun k_ => k_ ≠ gb147) (fun _ => False) rfl (by first | (go_simp; done) | (go_simp; rfl)) ?aP (fun _ hk => hk.elim) ?aF ?aO ?aB ?aS ?aL ?_; (case aP => exact k41_mkM _ _ _ (⟨t149, t150, t151, t152⟩ : S41)); (case aB => exact bel); (case aF => exact (fun k_ hk => Kd.freshB (g := gb147) (o := .cells #[.bool t149, .int .i64 t150, .int .i64 t151, .int .u8 t152] 41 (0, 0)) (bkp BK147) k_ hk)); (case aO => exact (by (with_reducible repeat (first | apply Kd.R_alloc | apply Kd.R_drewN | apply Kd.R_drew)); exact Kd.R_mono (Kd.R_far (p := ⟨gb147, 3, none⟩) (Kd.R_far (p := ⟨gb147, 2, none⟩) (Kd.R_far (p := ⟨gb147, 1, none⟩) (Kd.R_far (p := ⟨gb147, 0, none⟩) (Kd.R_mono HO_7.out (fun k_ hk => (⟨hk, hk.2⟩ : _ ∧ k_ ≠ gb147))) (fun _ hk => hk.2) (.bool t149)) (fun _ hk => hk.2) (.int .i64 t150)) (fun _ hk => hk.2) (.int .i64 t151)) (fun _ hk => hk.2) (.int .u8 t152)) (fun _ hk => hk.1.2))); (case aS => exact (below_size bel)); (case aL => have := LMc19.out; omega); intro v154 w34 ho hb hg hat; rw [← Ny153.out] at ho; have HO155 := Aside0.mk ho; replace BK143 := Aside0.mk (blk_grown (bkq BK143) hg (Kd.R_ne HO_7.out BK143.out (by decide))); replace BK146 := Aside0.mk (blk_grown (g := gb146) (o := .cells #[.int .i64 ((rd_T51 (rd_L10 l0_2 a2) x26_2).f0), .int .i64 ((rd_T51 (rd_L10 l0_2 a2) x26_2).f1), .slice A145_2 ((rd_T51 (rd_L10 l0_2 a2) x26_2).f2).length c145_2, .slice A145_3 ((rd_T51 (rd_L10 l0_2 a2) x26_2).f3).length c145_3] 51 (0, 0)) (bkq BK146) hg (Kd.R_ne HO_7.out BK146.out (by decide))); replace BK147 := Aside0.mk (blk_grown (g := gb147) (o := .cells #[.bool t149, .int .i64 t150, .int .i64 t151, .int .u8 t152] 41 (0, 0)) (bkp BK147) hg (Kd.R_away HO_7.out (fun _ hk => hk.2))); replace HB := Aside0.mk (hb); clear HO_7; clear ho hb hg hat))
               go_roundg k2
               case measure => have := HJ3.out; have := HK2.out; omega
               case rel => exact ⟨(y153), (wrap64 (x26_2 + 1)), (by first | rfl | (simp; done) | (simp [*]; done)), H', ⟨by have := HJ3.out; have := HK2.out; omega⟩, ⟨by (with_reducible repeat (first | apply Kd.R_alloc | apply Kd.R_drewN | apply Kd.R_drew)); exact Kd.R_mono HO155.out (fun _ hk => trivial)⟩, ⟨bkq BK143⟩, ⟨by repeat (first | (with_reducible first | exact HB.out | apply below_alloc | apply pw_below_drewN | apply below_drew1 | refine below_set ?_ GE143.out | refine below_set ?_ GE146.out | refine below_set ?_ GE147.out) | exact HB.out)⟩⟩
              ·rw [if_neg c19] at H
               exact absurd H (by simp)
             ·rw [if_neg c17] at H
              exact absurd H (by simp)
            ·rw [if_neg c16] at H
             have c16b0 : decide (((rd_T51 (rd_L10 l0_2 a2) x26_2).f0) < (l1.length : Int)) = false := decide_eq_false c16
             clear c16
             by_cases c35 : x7_2.length < 4398046511104
             ·rw [if_pos c35] at H
              have LMc35 := Aside0.mk c35
              clear c35
              obtain ⟨y156, hy156⟩ : ∃ y_ : List (S41), y_ = (x7_2 ++ [(⟨false, 0, 0, 0⟩ : S41)]) := ⟨_, rfl⟩
              replace H : (stable_Offers.l0 k2 l1 y156 (rd_L10 l0_2 a2) ((rd_L10 l0_2 a2).length : Int) (wrap64 (x26_2 + 1))) = some r := by first | (rw [hy156]; with_reducible exact H) | (have H2_ := (Option.bind_some _ _).symm.trans H; rw [hy156]; with_reducible exact H2_) | (have H2_ := (Option.bind_some _ _).symm.trans H; with_reducible exact H2_) | with_reducible exact H | (rw [hy156]; exact H) | exact H
              have Ny156 := Aside0.mk hy156
              clear hy156
              have H' := Aside0.mk H
              clear H
              have p145 : 0 ≤ (x26_2 : Int) := of_decide_eq_true (by first | (with_reducible assumption) | assumption)
              have q145 : x26_2 < ((rd_L10 l0_2 a2).length : Int) := of_decide_eq_true (by first | (with_reducible assumption) | assumption)
              obtain ⟨ad145, A145_2, c145_2, A145_3, c145_3, e145, hx145_0, hx145_1, hx145_2, hx145_3, hl145_2, hi145_2, hl145_3, hi145_3⟩ := at_T51 HR144_0.out x26_2 p145 q145
              cases e145
              replace hx145_0 := (HB.out.cell (World.block_lt_of_cell? w _ hx145_0)).trans hx145_0
              replace hx145_1 := (HB.out.cell (World.block_lt_of_cell? w _ hx145_1)).trans hx145_1
              replace hx145_2 := (HB.out.cell (World.block_lt_of_cell? w _ hx145_2)).trans hx145_2
              replace hx145_3 := (HB.out.cell (World.block_lt_of_cell? w _ hx145_3)).trans hx145_3
              have HR145_2 := Aside0.mk hi145_2
              have HC145_2 := Aside0.mk hl145_2
              clear hi145_2 hl145_2
              have HR145_3 := Aside0.mk hi145_3
              have HC145_3 := Aside0.mk hl145_3
              clear hi145_3 hl145_3
              replace p145 := eq_true p145
              replace q145 := eq_true q145
              go_wp2_with (first | ((with_reducible refine gate_dst (N := 9) rfl ?_); (try (refine gate_guard (by rfl) ?_; dsimp only)); refine bx 9 (cs := #[.int .i64 0, .int .i64 0, .slice none 0 0, .slice none 0 0]) (t := 51) (h := ?_); intro gb146 hg w36 hbox hb; have BK146 := Aside0.mk hbox; have GW146 : Aside0 (w.heap.size ≤ gb146) := bge hg; have GE146 : Aside0 (w.heap.size ≤ gb146) := bge hg; have NB143_146 := bne BK143 hg; have NB146_143 := bnf BK143 hg; replace HO_7 := Aside0.mk (Kd.R_below (kR HO_7) hb); replace BK143 := bkb BK143 hb; replace HB := bst hb; clear hb hbox hg; have hnb37 := NB146_143.out; have hnc37 := NB143_146.out; obtain ⟨hcz38_0, hcz38_1, hcz38_2, hcz38_3, hfz38_0, hfz38_1, hfz38_2, hfz38_3⟩ := bc4 BK146) | ((with_reducible refine gate_dst (N := 10) rfl ?_); (try (refine gate_guard (by rfl) ?_; dsimp only)); refine bx 10 (cs := #[.bool false, .int .i64 0, .int .i64 0, .int .u8 0]) (t := 41) (h := ?_); intro gb147 hg w39 hbox hb; have BK147 := Aside0.mk hbox; have GW147 : Aside0 (w.heap.size ≤ gb147) := bge hg; have GE147 : Aside0 (w.heap.size ≤ gb147) := bge hg; have NB143_147 := bne BK143 hg; have NB147_143 := bnf BK143 hg; have NB146_147 := Aside0.mk ((by rw [hg]; exact Nat.ne_of_lt (blk_lt (g := gb146) (o := .cells #[.int .i64 ((rd_T51 (rd_L10 l0_2 a2) x26_2).f0), .int .i64 ((rd_T51 (rd_L10 l0_2 a2) x26_2).f1), .slice A145_2 ((rd_T51 (rd_L10 l0_2 a2) x26_2).f2).length c145_2, .slice A145_3 ((rd_T51 (rd_L10 l0_2 a2) x26_2).f3).length c145_3] 51 (0, 0)) (bkp BK146)) : gb146 ≠ gb147)); have NB147_146 := Aside0.mk ((by rw [hg]; exact Nat.ne_of_gt (blk_lt (g := gb146) (o := .cells #[.int .i64 ((rd_T51 (rd_L10 l0_2 a2) x26_2).f0), .int .i64 ((rd_T51 (rd_L10 l0_2 a2) x26_2).f1), .slice A145_2 ((rd_T51 (rd_L10 l0_2 a2) x26_2).f2).length c145_2, .slice A145_3 ((rd_T51 (rd_L10 l0_2 a2) x26_2).f3).length c145_3] 51 (0, 0)) (bkp BK146)) : gb147 ≠ gb146)); replace HO_7 := Aside0.mk (Kd.R_below (Kd.R_elderB (by (with_reducible repeat (first | apply Kd.R_alloc | apply Kd.R_drewN | apply Kd.R_drew)); exact (Kd.R_mono (Kd.R_far (p := ⟨gb146, 3, none⟩) (Kd.R_far (p := ⟨gb146, 2, none⟩) (Kd.R_far (p := ⟨gb146, 1, none⟩) (Kd.R_far (p := ⟨gb146, 0, none⟩) (Kd.R_types HO_7.out BK146.out (by decide)) (fun _ hk => hk.2) (.int .i64 ((rd_T51 (rd_L10 l0_2 a2) x26_2).f0))) (fun _ hk => hk.2) (.int .i64 ((rd_T51 (rd_L10 l0_2 a2) x26_2).f1))) (fun _ hk => hk.2) (.slice A145_2 ((rd_T51 (rd_L10 l0_2 a2) x26_2).f2).length c145_2)) (fun _ hk => hk.2) (.slice A145_3 ((rd_T51 (rd_L10 l0_2 a2) x26_2).f3).length c145_3)) (fun _ h_ => h_.1))) gb147 (Nat.le_of_eq hg.symm)) hb); replace BK143 := bkb BK143 hb; replace BK146 := Aside0.mk (blk_below (g := gb146) (o := .cells #[.int .i64 ((rd_T51 (rd_L10 l0_2 a2) x26_2).f0), .int .i64 ((rd_T51 (rd_L10 l0_2 a2) x26_2).f1), .slice A145_2 ((rd_T51 (rd_L10 l0_2 a2) x26_2).f2).length c145_2, .slice A145_3 ((rd_T51 (rd_L10 l0_2 a2) x26_2).f3).length c145_3] 51 (0, 0)) (bkp BK146) hb); replace HB := bst hb; clear hb hbox hg; have hnb40 := NB146_147.out; have hnc40 := NB147_146.out; obtain ⟨hcz41_0, hcz41_1, hcz41_2, hcz41_3, hfz41_0, hfz41_1, hfz41_2, hfz41_3⟩ := bc4 BK146; have hnb42 := NB147_143.out; have hnc42 := NB143_147.out; obtain ⟨hcz43_0, hcz43_1, hcz43_2, hcz43_3, hfz43_0, hfz43_1, hfz43_2, hfz43_3⟩ := bc4 BK147) | ((with_reducible refine gate_builtin (b := .append) (xs := #[.tmp 47, .tmp 49]) rfl ?_); (try (refine gate_guard (by rfl) ?_; dsimp only)); at_builtin; refine Kd.R_append k41 (w0 := w) w.heap.size rfl (.tmp 47) (.tmp 49) 38 41 (.agg #[(.bool false), (.int .i64 0), (.int .i64 0), (.int .u8 0)]) 32 rfl Try.underlying38 info41 rfl (by decide) (by omega) u7 x7_2 (⟨false, 0, 0, 0⟩ : S41) [.bool false, .int .i64 0, .int .i64 0, .int .u8 0] (fun k_ => k_ ≠ gb147) (fun _ => False) rfl rfl ?aP (fun _ hk => hk.elim) ?aF ?aO ?aB ?aS ?aL ?_; (case aP => exact k41_mkM _ _ _ (⟨false, 0, 0, 0⟩ : S41)); (case aB => exact bel); (case aF => exact (fun k_ hk => Kd.freshB (bkq BK147) k_ hk)); (case aO => exact (by (with_reducible repeat (first | apply Kd.R_alloc | apply Kd.R_drewN | apply Kd.R_drew)); exact Kd.R_mono HO_7.out (fun _ hk => hk.2))); (case aS => exact (below_size bel)); (case aL => have := LMc35.out; omega); intro v157 w44 ho hb hg hat; rw [← Ny156.out] at ho; have HO158 := Aside0.mk ho; replace BK143 := Aside0.mk (blk_grown (bkq BK143) hg (Kd.R_ne HO_7.out BK143.out (by decide))); replace BK146 := Aside0.mk (blk_grown (g := gb146) (o := .cells #[.int .i64 ((rd_T51 (rd_L10 l0_2 a2) x26_2).f0), .int .i64 ((rd_T51 (rd_L10 l0_2 a2) x26_2).f1), .slice A145_2 ((rd_T51 (rd_L10 l0_2 a2) x26_2).f2).length c145_2, .slice A145_3 ((rd_T51 (rd_L10 l0_2 a2) x26_2).f3).length c145_3] 51 (0, 0)) (bkq BK146) hg (Kd.R_ne HO_7.out BK146.out (by decide))); replace BK147 := Aside0.mk (blk_grown (bkq BK147) hg (Kd.R_away HO_7.out (fun _ hk => hk.2))); replace HB := Aside0.mk (hb); clear HO_7; clear ho hb hg hat))
              go_roundg k2
              case measure => have := HJ3.out; have := HK2.out; omega
              case rel => exact ⟨(y156), (wrap64 (x26_2 + 1)), (by first | rfl | (simp; done) | (simp [*]; done)), H', ⟨by have := HJ3.out; have := HK2.out; omega⟩, ⟨by (with_reducible repeat (first | apply Kd.R_alloc | apply Kd.R_drewN | apply Kd.R_drew)); exact Kd.R_mono HO158.out (fun _ hk => trivial)⟩, ⟨bkq BK143⟩, ⟨by repeat (first | (with_reducible first | exact HB.out | apply below_alloc | apply pw_below_drewN | apply below_drew1 | refine below_set ?_ GE143.out | refine below_set ?_ GE146.out | refine below_set ?_ GE147.out) | exact HB.out)⟩⟩
             ·rw [if_neg c35] at H
              exact absurd H (by simp)
           ·rw [if_neg c15] at H
            have c15b0 : decide (0 ≤ ((rd_T51 (rd_L10 l0_2 a2) x26_2).f0)) = false := decide_eq_false c15
            clear c15
            by_cases c45 : x7_2.length < 4398046511104
            ·rw [if_pos c45] at H
             have LMc45 := Aside0.mk c45
             clear c45
             obtain ⟨y159, hy159⟩ : ∃ y_ : List (S41), y_ = (x7_2 ++ [(⟨false, 0, 0, 0⟩ : S41)]) := ⟨_, rfl⟩
             replace H : (stable_Offers.l0 k2 l1 y159 (rd_L10 l0_2 a2) ((rd_L10 l0_2 a2).length : Int) (wrap64 (x26_2 + 1))) = some r := by first | (rw [hy159]; with_reducible exact H) | (have H2_ := (Option.bind_some _ _).symm.trans H; rw [hy159]; with_reducible exact H2_) | (have H2_ := (Option.bind_some _ _).symm.trans H; with_reducible exact H2_) | with_reducible exact H | (rw [hy159]; exact H) | exact H
             have Ny159 := Aside0.mk hy159
             clear hy159
             have H' := Aside0.mk H
             clear H
             have p145 : 0 ≤ (x26_2 : Int) := of_decide_eq_true (by first | (with_reducible assumption) | assumption)
             have q145 : x26_2 < ((rd_L10 l0_2 a2).length : Int) := of_decide_eq_true (by first | (with_reducible assumption) | assumption)
             obtain ⟨ad145, A145_2, c145_2, A145_3, c145_3, e145, hx145_0, hx145_1, hx145_2, hx145_3, hl145_2, hi145_2, hl145_3, hi145_3⟩ := at_T51 HR144_0.out x26_2 p145 q145
             cases e145
             replace hx145_0 := (HB.out.cell (World.block_lt_of_cell? w _ hx145_0)).trans hx145_0
             replace hx145_1 := (HB.out.cell (World.block_lt_of_cell? w _ hx145_1)).trans hx145_1
             replace hx145_2 := (HB.out.cell (World.block_lt_of_cell? w _ hx145_2)).trans hx145_2
             replace hx145_3 := (HB.out.cell (World.block_lt_of_cell? w _ hx145_3)).trans hx145_3
             have HR145_2 := Aside0.mk hi145_2
             have HC145_2 := Aside0.mk hl145_2
             clear hi145_2 hl145_2
             have HR145_3 := Aside0.mk hi145_3
             have HC145_3 := Aside0.mk hl145_3
             clear hi145_3 hl145_3
             replace p145 := eq_true p145
             replace q145 := eq_true q145
             go_wp2_with (first | ((with_reducible refine gate_dst (N := 9) rfl ?_); (try (refine gate_guard (by rfl) ?_; dsimp only)); refine bx 9 (cs := #[.int .i64 0, .int .i64 0, .slice none 0 0, .slice none 0 0]) (t := 51) (h := ?_); intro gb146 hg w46 hbox hb; have BK146 := Aside0.mk hbox; have GW146 : Aside0 (w.heap.size ≤ gb146) := bge hg; have GE146 : Aside0 (w.heap.size ≤ gb146) := bge hg; have NB143_146 := bne BK143 hg; have NB146_143 := bnf BK143 hg; replace HO_7 := Aside0.mk (Kd.R_below (kR HO_7) hb); replace BK143 := bkb BK143 hb; replace HB := bst hb; clear hb hbox hg; have hnb47 := NB146_143.out; have hnc47 := NB143_146.out; obtain ⟨hcz48_0, hcz48_1, hcz48_2, hcz48_3, hfz48_0, hfz48_1, hfz48_2, hfz48_3⟩ := bc4 BK146) | ((with_reducible refine gate_dst (N := 10) rfl ?_); (try (refine gate_guard (by rfl) ?_; dsimp only)); refine bx 10 (cs := #[.bool false, .int .i64 0, .int .i64 0, .int .u8 0]) (t := 41) (h := ?_); intro gb147 hg w49 hbox hb; have BK147 := Aside0.mk hbox; have GW147 : Aside0 (w.heap.size ≤ gb147) := bge hg; have GE147 : Aside0 (w.heap.size ≤ gb147) := bge hg; have NB143_147 := bne BK143 hg; have NB147_143 := bnf BK143 hg; have NB146_147 := Aside0.mk ((by rw [hg]; exact Nat.ne_of_lt (blk_lt (g := gb146) (o := .cells #[.int .i64 ((rd_T51 (rd_L10 l0_2 a2) x26_2).f0), .int .i64 ((rd_T51 (rd_L10 l0_2 a2) x26_2).f1), .slice A145_2 ((rd_T51 (rd_L10 l0_2 a2) x26_2).f2).length c145_2, .slice A145_3 ((rd_T51 (rd_L10 l0_2 a2) x26_2).f3).length c145_3] 51 (0, 0)) (bkp BK146)) : gb146 ≠ gb147)); have NB147_146 := Aside0.mk ((by rw [hg]; exact Nat.ne_of_gt (blk_lt (g := gb146) (o := .cells #[.int .i64 ((rd_T51 (rd_L10 l0_2 a2) x26_2).f0), .int .i64 ((rd_T51 (rd_L10 l0_2 a2) x26_2).f1), .slice A145_2 ((rd_T51 (rd_L10 l0_2 a2) x26_2).f2).length c145_2, .slice A145_3 ((rd_T51 (rd_L10 l0_2 a2) x26_2).f3).length c145_3] 51 (0, 0)) (bkp BK146)) : gb147 ≠ gb146)); replace HO_7 := Aside0.mk (Kd.R_below (Kd.R_elderB (by (with_reducible repeat (first | apply Kd.R_alloc | apply Kd.R_drewN | apply Kd.R_drew)); exact (Kd.R_mono (Kd.R_far (p := ⟨gb146, 3, none⟩) (Kd.R_far (p := ⟨gb146, 2, none⟩) (Kd.R_far (p := ⟨gb146, 1, none⟩) (Kd.R_far (p := ⟨gb146, 0, none⟩) (Kd.R_types HO_7.out BK146.out (by decide)) (fun _ hk => hk.2) (.int .i64 ((rd_T51 (rd_L10 l0_2 a2) x26_2).f0))) (fun _ hk => hk.2) (.int .i64 ((rd_T51 (rd_L10 l0_2 a2) x26_2).f1))) (fun _ hk => hk.2) (.slice A145_2 ((rd_T51 (rd_L10 l0_2 a2) x26_2).f2).length c145_2)) (fun _ hk => hk.2) (.slice A145_3 ((rd_T51 (rd_L10 l0_2 a2) x26_2).f3).length c145_3)) (fun _ h_ => h_.1))) gb147 (Nat.le_of_eq hg.symm)) hb); replace BK143 := bkb BK143 hb; replace BK146 := Aside0.mk (blk_below (g := gb146) (o := .cells #[.int .i64 ((rd_T51 (rd_L10 l0_2 a2) x26_2).f0), .int .i64 ((rd_T51 (rd_L10 l0_2 a2) x26_2).f1), .slice A145_2 ((rd_T51 (rd_L10 l0_2 a2) x26_2).f2).length c145_2, .slice A145_3 ((rd_T51 (rd_L10 l0_2 a2) x26_2).f3).length c145_3] 51 (0, 0)) (bkp BK146) hb); replace HB := bst hb; clear hb hbox hg; have hnb50 := NB146_147.out; have hnc50 := NB147_146.out; obtain ⟨hcz51_0, hcz51_1, hcz51_2, hcz51_3, hfz51_0, hfz51_1, hfz51_2, hfz51_3⟩ := bc4 BK146; have hnb52 := NB147_143.out; have hnc52 := NB143_147.out; obtain ⟨hcz53_0, hcz53_1, hcz53_2, hcz53_3, hfz53_0, hfz53_1, hfz53_2, hfz53_3⟩ := bc4 BK147) | ((with_reducible refine gate_builtin (b := .append) (xs := #[.tmp 47, .tmp 49]) rfl ?_); (try (refine gate_guard (by rfl) ?_; dsimp only)); at_builtin; refine Kd.R_append k41 (w0 := w) w.heap.size rfl (.tmp 47) (.tmp 49) 38 41 (.agg #[(.bool false), (.int .i64 0), (.int .i64 0), (.int .u8 0)]) 32 rfl Try.underlying38 info41 rfl (by decide) (by omega) u7 x7_2 (⟨false, 0, 0, 0⟩ : S41) [.bool false, .int .i64 0, .int .i64 0, .int .u8 0] (fun k_ => k_ ≠ gb147) (fun _ => False) rfl rfl ?aP (fun _ hk => hk.elim) ?aF ?aO ?aB ?aS ?aL ?_; (case aP => exact k41_mkM _ _ _ (⟨false, 0, 0, 0⟩ : S41)); (case aB => exact bel); (case aF => exact (fun k_ hk => Kd.freshB (bkq BK147) k_ hk)); (case aO => exact (by (with_reducible repeat (first | apply Kd.R_alloc | apply Kd.R_drewN | apply Kd.R_drew)); exact Kd.R_mono HO_7.out (fun _ hk => hk.2))); (case aS => exact (below_size bel)); (case aL => have := LMc45.out; omega); intro v160 w54 ho hb hg hat; rw [← Ny159.out] at ho; have HO161 := Aside0.mk ho; replace BK143 := Aside0.mk (blk_grown (bkq BK143) hg (Kd.R_ne HO_7.out BK143.out (by decide))); replace BK146 := Aside0.mk (blk_grown (g := gb146) (o := .cells #[.int .i64 ((rd_T51 (rd_L10 l0_2 a2) x26_2).f0), .int .i64 ((rd_T51 (rd_L10 l0_2 a2) x26_2).f1), .slice A145_2 ((rd_T51 (rd_L10 l0_2 a2) x26_2).f2).length c145_2, .slice A145_3 ((rd_T51 (rd_L10 l0_2 a2) x26_2).f3).length c145_3] 51 (0, 0)) (bkq BK146) hg (Kd.R_ne HO_7.out BK146.out (by decide))); replace BK147 := Aside0.mk (blk_grown (bkq BK147) hg (Kd.R_away HO_7.out (fun _ hk => hk.2))); replace HB := Aside0.mk (hb); clear HO_7; clear ho hb hg hat))
             go_roundg k2
             case measure => have := HJ3.out; have := HK2.out; omega
             case rel => exact ⟨(y159), (wrap64 (x26_2 + 1)), (by first | rfl | (simp; done) | (simp [*]; done)), H', ⟨by have := HJ3.out; have := HK2.out; omega⟩, ⟨by (with_reducible repeat (first | apply Kd.R_alloc | apply Kd.R_drewN | apply Kd.R_drew)); exact Kd.R_mono HO161.out (fun _ hk => trivial)⟩, ⟨bkq BK143⟩, ⟨by repeat (first | (with_reducible first | exact HB.out | apply below_alloc | apply pw_below_drewN | apply below_drew1 | refine below_set ?_ GE143.out | refine below_set ?_ GE146.out | refine below_set ?_ GE147.out) | exact HB.out)⟩⟩
            ·rw [if_neg c45] at H
             exact absurd H (by simp)
          ·rw [if_neg c14] at H
           exact absurd H (by simp)
         ·rw [if_neg c13] at H
          exact absurd H (by simp)
        ·rw [if_neg c12] at H
         have c12b0 : decide (x26_2 < ((rd_L10 l0_2 a2).length : Int)) = false := decide_eq_false c12
         clear c12
         obtain rfl := Option.some.inj H
         go_wp2
         go_ret
         exact ⟨_, by first | rfl | (simp [errW_none, errW_some] <;> rfl) | (simp [*, errW_none, errW_some] <;> rfl), by (with_reducible repeat (first | apply Kd.R_alloc | apply Kd.R_drewN | apply Kd.R_drew)); exact HO_7.out, by repeat (first | (with_reducible first | exact HB.out | apply below_alloc | apply pw_below_drewN | apply below_drew1 | refine below_set ?_ GE143.out) | exact HB.out)⟩
     ·rw [if_neg c10] at H
      exact absurd H (by simp)
    ·rw [if_neg c9] at H
     exact absurd H (by simp)

end Go.Proofs.Ytkhbpjhlekldpaa.PLift
