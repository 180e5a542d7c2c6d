-- Written by wip/xprint.py of this work: the printer of the kit, with contracts of this work beside it, shortened.
import Derived.Test.YtkhbpjhlekldpaaShort
import Derived.Test.YtkhbpjhlekldpaaPLiftx0
import Derived.Test.YtkhbpjhlekldpaaPLiftx2
import Derived.Test.YtkhbpjhlekldpaaPLiftx17
import Derived.Test.YtkhbpjhlekldpaaPLiftx18
namespace Go.Proofs.Ytkhbpjhlekldpaa.PLift
open Go.RowKit Go.Proofs.Ytkhbpjhlekldpaa.Short Go.Proofs.YtkhbpjhlekldpaaW.PrintWords Go.Proofs.YtkhbpjhlekldpaaW.PrintLast Go.Proofs.YtkhbpjhlekldpaaW.PrintMore
attribute [local go_sem] max2_int min2_int max_two min_two max_three min_three max_four min_four   -- for this text's walks alone
set_option linter.unusedVariables false
set_option linter.unusedSimpArgs false

/-! ### maquettelaw23_LiftUp: function 5 -/
mutual
def maquettelaw23_LiftUp.l0 : Nat → List (S64) → List Int → List Int → Int → Int → Option (Bool)
 | 0, _, _, _, _, _ => none
 | k + 1, x1, x5, x14, x15, x16 => if x16 < x15 then (if 0 ≤ x16 then (if x16 < (x14.length : Int) then (if x5.length < 17592186044416 then (maquettelaw23_LiftUp.l0 k x1 (x5 ++ [wrap64 (rd x14 x16)]) x14 x15 (wrap64 (x16 + 1))) else (none)) else (none)) else (none)) else ((lift_Up.f k x5 x1).bind fun t222 => (if (t222.length : Int) = (x5.length : Int) then (maquettelaw23_LiftUp.l1 k x1 t222 x5 (x5.length : Int) 0) else (some false)))
def maquettelaw23_LiftUp.l1 : Nat → List (S64) → List (S64) → List Int → Int → Int → Option (Bool)
 | 0, _, _, _, _, _ => none
 | k + 1, x1, x8, x34, x35, x36 => if x36 < x35 then (if 0 ≤ x36 then (if x36 < (x34.length : Int) then (if (rd x34 x36) ≥ 0 then (maquettelaw23_LiftUp.j2 k x1 x8 x36 (rd x34 x36) x34 x35 x36 (decide ((rd x34 x36) < (x1.length : Int))) false false) else (maquettelaw23_LiftUp.j2 k x1 x8 x36 (rd x34 x36) x34 x35 x36 false false false)) else (none)) else (none)) else (some true)
def maquettelaw23_LiftUp.j2 : Nat → List (S64) → List (S64) → Int → Int → List Int → Int → Int → Bool → Bool → Bool → Option (Bool)
 | 0, _, _, _, _, _, _, _, _, _, _ => none
 | k + 1, x1, x8, x9, x10, x34, x35, x36, x48, x227000, x227001 => if x48 = true then (if 0 ≤ x10 then (if x10 < (x1.length : Int) then (if 0 ≤ x9 then (if x9 < (x8.length : Int) then ((lift_Same.f k ((rd_T64 x8 x9).f0) ((rd_T64 x8 x9).f1) ((rd_T64 x8 x9).f2) ((rd_T64 x1 x10).f0) ((rd_T64 x1 x10).f1) ((rd_T64 x1 x10).f2)).bind fun t229 => (if t229 = true then (maquettelaw23_LiftUp.l1 k x1 x8 x34 x35 (wrap64 (x36 + 1))) else (some false))) else (none)) else (none)) else (none)) else (none)) else (if 0 ≤ x9 then (if x9 < (x8.length : Int) then ((lift_Same.f k ((rd_T64 x8 x9).f0) ((rd_T64 x8 x9).f1) ((rd_T64 x8 x9).f2) x227000 x227001 ([] : List Int)).bind fun t231 => (if t231 = true then (maquettelaw23_LiftUp.l1 k x1 x8 x34 x35 (wrap64 (x36 + 1))) else (some false))) else (none)) else (none))
end
def maquettelaw23_LiftUp.f (k : Nat) (l0 : List Int) (l1 : List (S64)) : Option (Bool) := (maquettelaw23_awake.f k).bind fun t217 => (if t217 = true then (maquettelaw23_LiftUp.l0 k l1 ([] : List Int) l0 (l0.length : Int) 0) else (some false))
theorem maquettelaw23_LiftUp.mono_l : ∀ k, (∀ y0 y1 y2 y3 y4, LeO (maquettelaw23_LiftUp.l0 k y0 y1 y2 y3 y4) (maquettelaw23_LiftUp.l0 (k + 1) y0 y1 y2 y3 y4)) ∧ (∀ y0 y1 y2 y3 y4, LeO (maquettelaw23_LiftUp.l1 k y0 y1 y2 y3 y4) (maquettelaw23_LiftUp.l1 (k + 1) y0 y1 y2 y3 y4)) ∧ (∀ y0 y1 y2 y3 y4 y5 y6 y7 y8 y9, LeO (maquettelaw23_LiftUp.j2 k y0 y1 y2 y3 y4 y5 y6 y7 y8 y9) (maquettelaw23_LiftUp.j2 (k + 1) y0 y1 y2 y3 y4 y5 y6 y7 y8 y9))
 | 0 => ⟨fun _ _ _ _ _ r h => by simp [maquettelaw23_LiftUp.l0] at h, fun _ _ _ _ _ r h => by simp [maquettelaw23_LiftUp.l1] at h, fun _ _ _ _ _ _ _ _ _ _ r h => by simp [maquettelaw23_LiftUp.j2] at h⟩
 | k + 1 => by
  obtain ⟨ih0, ih1, ih2⟩ := maquettelaw23_LiftUp.mono_l k
  refine ⟨?_, ?_, ?_⟩
  ·intro y0 y1 y2 y3 y4
   unfold maquettelaw23_LiftUp.l0
   repeat' first
   | (with_reducible exact ih0 _ _ _ _ _)
   | (with_reducible exact ih1 _ _ _ _ _)
   | (with_reducible exact ih2 _ _ _ _ _ _ _ _ _ _)
   | (with_reducible exact lift_Same.mono _ _ _ _ _ _ _)
   | (with_reducible exact lift_Up.mono _ _ _)
   | (with_reducible exact maquettelaw23_awake.mono _)
   | (with_reducible exact LeO.refl _)
   | (with_reducible exact LeO.none _)
   | (with_reducible refine LeO.ite ?_ ?_)
   | (with_reducible refine LeO.bind ?_ (fun _ => ?_))
   | exact ih0 _ _ _ _ _
   | exact ih1 _ _ _ _ _
   | exact ih2 _ _ _ _ _ _ _ _ _ _
   | exact lift_Same.mono _ _ _ _ _ _ _
   | exact lift_Up.mono _ _ _
   | exact maquettelaw23_awake.mono _
   | exact LeO.none _
   | refine LeO.ite ?_ ?_
   | refine LeO.bind ?_ (fun _ => ?_)
  ·intro y0 y1 y2 y3 y4
   unfold maquettelaw23_LiftUp.l1
   repeat' first
   | (with_reducible exact ih0 _ _ _ _ _)
   | (with_reducible exact ih1 _ _ _ _ _)
   | (with_reducible exact ih2 _ _ _ _ _ _ _ _ _ _)
   | (with_reducible exact lift_Same.mono _ _ _ _ _ _ _)
   | (with_reducible exact lift_Up.mono _ _ _)
   | (with_reducible exact maquettelaw23_awake.mono _)
   | (with_reducible exact LeO.refl _)
   | (with_reducible exact LeO.none _)
   | (with_reducible refine LeO.ite ?_ ?_)
   | (with_reducible refine LeO.bind ?_ (fun _ => ?_))
   | exact ih0 _ _ _ _ _
   | exact ih1 _ _ _ _ _
   | exact ih2 _ _ _ _ _ _ _ _ _ _
   | exact lift_Same.mono _ _ _ _ _ _ _
   | exact lift_Up.mono _ _ _
   | exact maquettelaw23_awake.mono _
   | exact LeO.none _
   | refine LeO.ite ?_ ?_
   | refine LeO.bind ?_ (fun _ => ?_)
  ·intro y0 y1 y2 y3 y4 y5 y6 y7 y8 y9
   unfold maquettelaw23_LiftUp.j2
   repeat' first
   | (with_reducible exact ih0 _ _ _ _ _)
   | (with_reducible exact ih1 _ _ _ _ _)
   | (with_reducible exact ih2 _ _ _ _ _ _ _ _ _ _)
   | (with_reducible exact lift_Same.mono _ _ _ _ _ _ _)
   | (with_reducible exact lift_Up.mono _ _ _)
   | (with_reducible exact maquettelaw23_awake.mono _)
   | (with_reducible exact LeO.refl _)
   | (with_reducible exact LeO.none _)
   | (with_reducible refine LeO.ite ?_ ?_)
   | (with_reducible refine LeO.bind ?_ (fun _ => ?_))
   | exact ih0 _ _ _ _ _
   | exact ih1 _ _ _ _ _
   | exact ih2 _ _ _ _ _ _ _ _ _ _
   | exact lift_Same.mono _ _ _ _ _ _ _
   | exact lift_Up.mono _ _ _
   | exact maquettelaw23_awake.mono _
   | exact LeO.none _
   | refine LeO.ite ?_ ?_
   | refine LeO.bind ?_ (fun _ => ?_)
theorem maquettelaw23_LiftUp.mono : ∀ a0 a1 k, LeO (maquettelaw23_LiftUp.f k a0 a1) (maquettelaw23_LiftUp.f (k + 1) a0 a1) := by
 intro a0 a1 k
 obtain ⟨ih0, ih1, ih2⟩ := maquettelaw23_LiftUp.mono_l k
 unfold maquettelaw23_LiftUp.f
 repeat' first
   | (with_reducible exact ih0 _ _ _ _ _)
   | (with_reducible exact ih1 _ _ _ _ _)
   | (with_reducible exact ih2 _ _ _ _ _ _ _ _ _ _)
   | (with_reducible exact lift_Same.mono _ _ _ _ _ _ _)
   | (with_reducible exact lift_Up.mono _ _ _)
   | (with_reducible exact maquettelaw23_awake.mono _)
   | (with_reducible exact LeO.refl _)
   | (with_reducible exact LeO.none _)
   | (with_reducible refine LeO.ite ?_ ?_)
   | (with_reducible refine LeO.bind ?_ (fun _ => ?_))
   | exact ih0 _ _ _ _ _
   | exact ih1 _ _ _ _ _
   | exact ih2 _ _ _ _ _ _ _ _ _ _
   | exact lift_Same.mono _ _ _ _ _ _ _
   | exact lift_Up.mono _ _ _
   | exact maquettelaw23_awake.mono _
   | exact LeO.none _
   | refine LeO.ite ?_ ?_
   | refine LeO.bind ?_ (fun _ => ?_)
set_option maxHeartbeats 8000000 in
set_option maxRecDepth 100000 in
theorem maquettelaw23_LiftUp.calls (k : Nat) (A0 : Option Addr) (c0 : Nat) (l0 : List Int) (A1 : Option Addr) (c1 : Nat) (l1 : List (S64)) (r : Bool) (w : World) (hr0 : Kd.C (Kd.int .i8) w A0 l0.length l0) (hc0 : l0.length ≤ c0) (hr1 : Kd.C k64 w A1 l1.length l1) (hc1 : l1.length ≤ c1) (h : maquettelaw23_LiftUp.f k l0 l1 = some r) :
  Calls Try.prog 5 #[.slice A0 l0.length c0, .slice A1 l1.length c1] w fun e w' => e = .returned (.bool r) ∧ Below w.heap.size w w' := by
 have hu64 := Try.underlying64
 have HR0 := Aside0.mk hr0
 have HC0 := Aside0.mk hc0
 clear hr0 hc0
 have HR1 := Aside0.mk hr1
 have HC1 := Aside0.mk hc1
 clear hr1 hc1
 have HB := Aside0.mk (Below.refl w.heap.size w)
 have H : ((maquettelaw23_awake.f k).bind fun t217 => (if t217 = true then (maquettelaw23_LiftUp.l0 k l1 ([] : List Int) l0 (l0.length : Int) 0) else (some false))) = some r := h
 clear h
 replace H := Option.bind_eq_some_iff.mp H
 obtain ⟨t217, A30, H⟩ := H
 replace H : (if t217 = true then (maquettelaw23_LiftUp.l0 k l1 ([] : List Int) l0 (l0.length : Int) 0) else (some false)) = some r := H
 have A3 := Aside0.mk A30
 clear A30
 by_cases c4 : t217 = true
 ·subst c4
  have H1 : (maquettelaw23_LiftUp.l0 k l1 ([] : List Int) l0 (l0.length : Int) 0) = some r := by rw [if_pos rfl] at H; exact H
  clear H
  have H := H1
  clear H1
  have H' := Aside0.mk H
  clear H
  go_enter Try.func5, Try.ntmps5
  go_wp2_with (first | ((with_reducible refine gate_dst (N := 12) rfl ?_); refine gl (some 12) Try.func20 #[] ?_; (with_reducible refine (maquettelaw23_awake.calls k  true _ A3.out).mono ?_); rintro e w5 ⟨rfl, hb⟩; refine ⟨_, rfl, ?_⟩; replace HB := bst hb; (try clear hb); (try clear hb2); (try clear hk); (try clear hi)))
  go_loopg [5, 16] k (fun kq v5 v16 w' => ∃ (x5_1 : List Int) (x16_1 : Int), v16 = .int .i64 x16_1 ∧ Aside0 (maquettelaw23_LiftUp.l0 kq l1 x5_1 l0 (l0.length : Int) x16_1 = some r) ∧ Aside0 (kq ≤ k) ∧ Aside0 (Kd.R (Kd.int .i64) 3 w' w.heap.size (fun _ => True) v5 x5_1) ∧ Aside0 (Below w.heap.size w w'))
  case atStart => exact ⟨(([] : List Int)), (0), (by first | rfl | (simp; done) | (simp [*]; done)), H', ⟨Nat.le_refl _⟩, ⟨by first | exact Kd.R_nil _ _ _ _ _ | exact Kd.N_nil _ _ _ _ _ | exact Kd.V_nil _ _ _ _ _ | exact Kd.Q_nil _ _ _ _ _ | exact Kd.S_nil _ _ _ _ _⟩, ⟨by repeat (first | (with_reducible first | exact HB.out | apply below_alloc | apply pw_below_drewN | apply below_drew1) | exact HB.out)⟩⟩
  case round =>
   clear H'
   try clear c1
   try clear c2
   try clear p2
   try clear c4
   try clear c5
   obtain ⟨x5_1, x16_1, rfl, HA, HK1, HO_5, HB⟩ := hrel
   cases gk with
   | zero => exact absurd HA.out (by simp [maquettelaw23_LiftUp.l0])
   | succ k1 =>
    have H := HA.out
    clear HA
    simp only [maquettelaw23_LiftUp.l0] at H
    by_cases c6 : x16_1 < (l0.length : Int)
    ·rw [if_pos c6] at H
     have c6b0 : decide (x16_1 < (l0.length : Int)) = true := decide_eq_true c6
     clear c6
     by_cases c7 : 0 ≤ x16_1
     ·rw [if_pos c7] at H
      have c7b0 : decide (0 ≤ x16_1) = true := decide_eq_true c7
      clear c7
      by_cases c8 : x16_1 < (l0.length : Int)
      ·rw [if_pos c8] at H
       have c8b0 : decide (x16_1 < (l0.length : Int)) = true := decide_eq_true c8
       clear c8
       by_cases c9 : x5_1.length < 17592186044416
       ·rw [if_pos c9] at H
        have LMc9 := Aside0.mk c9
        clear c9
        obtain ⟨y219, hy219⟩ : ∃ y_ : List Int, y_ = (x5_1 ++ [wrap64 (rd l0 x16_1)]) := ⟨_, rfl⟩
        replace H : (maquettelaw23_LiftUp.l0 k1 l1 y219 l0 (l0.length : Int) (wrap64 (x16_1 + 1))) = some r := by first | (rw [hy219]; with_reducible exact H) | (have H2_ := (Option.bind_some _ _).symm.trans H; rw [hy219]; with_reducible exact H2_) | (have H2_ := (Option.bind_some _ _).symm.trans H; with_reducible exact H2_) | with_reducible exact H | (rw [hy219]; exact H) | exact H
        have Ny219 := Aside0.mk hy219
        clear hy219
        have H' := Aside0.mk H
        clear H
        have p218 : 0 ≤ (x16_1 : Int) := of_decide_eq_true (by first | (with_reducible assumption) | assumption)
        have q218 : x16_1 < (l0.length : Int) := of_decide_eq_true (by first | (with_reducible assumption) | assumption)
        obtain ⟨ad218, e218, hx218_0⟩ := Kd.at_int HR0.out x16_1 p218 q218
        cases e218
        replace hx218_0 := (HB.out.cell (World.block_lt_of_cell? w _ hx218_0)).trans hx218_0
        replace p218 := eq_true p218
        replace q218 := eq_true q218
        go_wp2_with (first | ((with_reducible refine gate_builtin (b := .append) (xs := #[.tmp 20, .tmp 23]) rfl ?_); (try (refine gate_guard (by rfl) ?_; dsimp only)); at_builtin; refine Kd.R_append (Kd.int .i64) (w0 := w) w.heap.size rfl (.tmp 20) (.tmp 23) 60 3 (.int .i64 0) 8 rfl Try.underlying60 info3 rfl (by decide) (by omega) u5 x5_1 (wrap64 (rd l0 x16_1)) [.int .i64 (wrap64 (rd l0 x16_1))] (fun _ => True) (fun _ => False) rfl rfl ?aP (fun _ hk => hk.elim) ?aF ?aO ?aB ?aS ?aL ?_; (case aP => exact rfl); (case aB => exact bel); (case aF => exact (fun _ _ => trivial)); (case aO => exact (kR HO_5)); (case aS => exact (below_size bel)); (case aL => have := LMc9.out; omega); intro v220 w10 ho hb hg hat; rw [← Ny219.out] at ho; have HO221 := Aside0.mk ho; replace HB := Aside0.mk (hb); clear HO_5; clear ho hb hg hat))
        go_roundg k1
        case measure => have := HK1.out; omega
        case rel => exact ⟨(y219), (wrap64 (x16_1 + 1)), (by first | rfl | (simp; done) | (simp [*]; done)), H', ⟨by have := HK1.out; omega⟩, ⟨by (with_reducible repeat (first | apply Kd.R_alloc | apply Kd.R_drewN | apply Kd.R_drew)); exact HO221.out⟩, ⟨by repeat (first | (with_reducible first | exact HB.out | apply below_alloc | apply pw_below_drewN | apply below_drew1) | exact HB.out)⟩⟩
       ·rw [if_neg c9] at H
        exact absurd H (by simp)
      ·rw [if_neg c8] at H
       exact absurd H (by simp)
     ·rw [if_neg c7] at H
      exact absurd H (by simp)
    ·rw [if_neg c6] at H
     have c6b0 : decide (x16_1 < (l0.length : Int)) = false := decide_eq_false c6
     clear c6
     replace H := Option.bind_eq_some_iff.mp H
     obtain ⟨t222, A110, H⟩ := H
     replace H : (if (t222.length : Int) = (x5_1.length : Int) then (maquettelaw23_LiftUp.l1 k1 l1 t222 x5_1 (x5_1.length : Int) 0) else (some false)) = some r := H
     have A11 := Aside0.mk A110
     clear A110
     by_cases c12 : (t222.length : Int) = (x5_1.length : Int)
     ·rw [if_pos c12] at H
      have c12b0 : ((t222.length : Int) == (x5_1.length : Int)) = true := beq_iff_eq.mpr c12
      have c12b1 : ((t222.length : Int) != (x5_1.length : Int)) = false := bne_eq_false_iff_eq.mpr c12
      have c12b2 : (t222.length == x5_1.length) = true := by first | simpa using c12 | (simp at c12 ⊢; omega)
      clear c12
      have H' := Aside0.mk H
      clear H
      obtain ⟨Ao13, co13, eo13⟩ := Kd.R_slice HO_5.out
      subst eo13
      go_wp2_with (first | ((with_reducible refine gate_dst (N := 28) rfl ?_); refine gl (some 28) Try.func21 #[.slice Ao13 x5_1.length co13, .slice A1 l1.length c1] ?_; (with_reducible refine (lift_Up.calls k1 _ _ x5_1 _ _ l1 t222 _ ?side1 ?side2 ?side3 ?side4 A11.out).mono ?_); (case side1 => repeat (first | exact (Kd.R_reads' HO_5.out).2.2 | (with_reducible refine Kd.C_alloc ?_ _) | (with_reducible refine Kd.C_drewN ?_ _) | (with_reducible refine Kd.C_drew ?_))); (case side2 => exact (Kd.R_reads' HO_5.out).2.1); (case side3 => repeat (first | exact (Kd.C_below HR1.out HB.out) | (with_reducible refine Kd.C_alloc ?_ _) | (with_reducible refine Kd.C_drewN ?_ _) | (with_reducible refine Kd.C_drew ?_))); (case side4 => exact HC1.out); rintro e w14 ⟨v223, rfl, ho0, hb⟩; refine ⟨_, rfl, ?_⟩; have HO224 := Aside0.mk (Kd.S_lower (Kd.S_new' ho0 (Kd.R_lt (kR HO_5))) (below_size bel)); replace HO_5 := Aside0.mk (Kd.R_below (kR HO_5) hb); replace HB := bst hb; (try clear hb); (try clear hb2); (try clear hk); (try clear hi); (try clear ho0); obtain ⟨Ao15, co15, eo15⟩ := Kd.S_slice HO224.out; subst eo15))
      go_loopg [36] k1 (fun kq v36 w' => ∃ (x36_2 : Int), v36 = .int .i64 x36_2 ∧ Aside0 (maquettelaw23_LiftUp.l1 kq l1 t222 x5_1 (x5_1.length : Int) x36_2 = some r) ∧ Aside0 (kq ≤ k1) ∧ Aside0 (Kd.S k64 64 w' w.heap.size (fun k_ => some k_ ≠ ((.slice Ao13 x5_1.length co13) : Value).ownBlock) (.slice Ao15 t222.length co15) t222) ∧ Aside0 (Kd.R (Kd.int .i64) 3 w' w.heap.size (fun _ => True) (.slice Ao13 x5_1.length co13) x5_1) ∧ Aside0 (Below w.heap.size w w'))
      case atStart => exact ⟨(0), (by first | rfl | (simp; done) | (simp [*]; done)), H', ⟨Nat.le_refl _⟩, ⟨by (with_reducible repeat (first | apply Kd.S_alloc | apply Kd.S_drewN | apply Kd.S_drew)); exact Kd.S_mono HO224.out (fun _ hk => hk.2)⟩, ⟨by (with_reducible repeat (first | apply Kd.R_alloc | apply Kd.R_drewN | apply Kd.R_drew)); exact HO_5.out⟩, ⟨by repeat (first | (with_reducible first | exact HB.out | apply below_alloc | apply pw_below_drewN | apply below_drew1) | exact HB.out)⟩⟩
      case round =>
       clear H'
       try clear c1
       try clear c2
       try clear p2 p2
       try clear q2
       try clear hx2
       try clear c4
       try clear c5
       try clear c6
       try clear c6b0
       try clear p6
       try clear c7
       try clear c7b0
       try clear c8
       try clear c8b0
       try clear c9
       try clear c12
       try clear c12b0
       try clear c12b1
       try clear c12b2
       try clear hx218_0
       try clear p218
       try clear q218
       obtain ⟨x36_2, rfl, HA, HK2, HO_8, HO_34, HB⟩ := hrel
       cases gk with
       | zero => exact absurd HA.out (by simp [maquettelaw23_LiftUp.l1])
       | succ k2 =>
        have H := HA.out
        clear HA
        simp only [maquettelaw23_LiftUp.l1] at H
        by_cases c16 : x36_2 < (x5_1.length : Int)
        ·rw [if_pos c16] at H
         have c16b0 : decide (x36_2 < (x5_1.length : Int)) = true := decide_eq_true c16
         clear c16
         by_cases c17 : 0 ≤ x36_2
         ·rw [if_pos c17] at H
          have c17b0 : decide (0 ≤ x36_2) = true := decide_eq_true c17
          clear c17
          by_cases c18 : x36_2 < (x5_1.length : Int)
          ·rw [if_pos c18] at H
           have c18b0 : decide (x36_2 < (x5_1.length : Int)) = true := decide_eq_true c18
           clear c18
           have HC19 := Aside0.mk H
           clear H
           have p225 : 0 ≤ (x36_2 : Int) := of_decide_eq_true (by first | (with_reducible assumption) | assumption)
           have q225 : x36_2 < (x5_1.length : Int) := of_decide_eq_true (by first | (with_reducible assumption) | assumption)
           obtain ⟨ad225, e225, hx225_0⟩ := Kd.at_int (Kd.R_reads' HO_34.out).2.2 x36_2 p225 q225
           cases e225
           replace p225 := eq_true p225
           replace q225 := eq_true q225
           go_upto_region 16 with (first | ((with_reducible refine gate_dst (N := 11) rfl ?_); (try (refine gate_guard (by rfl) ?_; dsimp only)); refine bx 11 (cs := #[.bool false, .bool false, .slice none 0 0]) (t := 64) (h := ?_); intro gb226 hg w20 hbox hb; have BK226 := Aside0.mk hbox; have GW226 : Aside0 (w.heap.size ≤ gb226) := bge hg; have GE226 : Aside0 (w.heap.size ≤ gb226) := bge hg; replace HO_8 := Aside0.mk (Kd.S_below (Kd.S_elderB (kS HO_8) gb226 (Nat.le_of_eq hg.symm)) hb); replace HO_34 := Aside0.mk (Kd.R_below (kR HO_34) hb); replace HB := bst hb; clear hb hbox hg))
           (try simp only [Act.put, List.setIfInBounds_toArray, List.set_cons_zero, List.set_cons_succ])
           go_cut [48] (fun v48 wc => ∃ (kq : Nat) (x48_18 : Bool), v48 = .bool x48_18 ∧ Aside0 (maquettelaw23_LiftUp.j2 kq l1 t222 x36_2 (rd x5_1 x36_2) x5_1 (x5_1.length : Int) x36_2 x48_18 false false = some r) ∧ Aside0 (kq ≤ k2) ∧ Aside0 (Kd.S k64 64 wc w.heap.size (fun k_ => some k_ ≠ ((.slice (some ad225) x5_1.length co13) : Value).ownBlock ∧ k_ ≠ gb226) (.slice Ao15 t222.length co15) t222) ∧ Aside0 (Kd.R (Kd.int .i64) 3 wc w.heap.size (fun _ => True) (.slice (some ad225) x5_1.length co13) x5_1) ∧ Aside0 (wc.heap[gb226]? = some (.cells #[.bool false, .bool false, (.slice none 0 0)] 64 (0, 0))) ∧ Aside0 (Below w.heap.size w wc))
           case first =>
            have H := HC19.out
            clear HC19
            by_cases c21 : (rd x5_1 x36_2) ≥ 0
            ·rw [if_pos c21] at H
             have c21b0 : decide (0 ≤ (rd x5_1 x36_2)) = true := decide_eq_true c21
             clear c21
             (first | rw [c21b0] | (simp only [i64_w, i32_w]; rw [c21b0]) | skip)
             have H' := Aside0.mk H
             clear H
             go_wp2
             go_meet
             case rel => exact ⟨_, (decide ((rd x5_1 x36_2) < (l1.length : Int))), (by first | rfl | (simp; done) | (simp [*]; done)), H', ⟨by have := HK1.out; have := HK2.out; first | omega | exact Nat.le_refl _⟩, ⟨by (with_reducible repeat (first | apply Kd.S_alloc | apply Kd.S_drewN | apply Kd.S_drew)); exact HO_8.out⟩, ⟨by (with_reducible repeat (first | apply Kd.R_alloc | apply Kd.R_drewN | apply Kd.R_drew)); exact HO_34.out⟩, ⟨bkq BK226⟩, ⟨by repeat (first | (with_reducible first | exact HB.out | apply below_alloc | apply pw_below_drewN | apply below_drew1 | refine below_set ?_ GE226.out) | exact HB.out)⟩⟩
            ·rw [if_neg c21] at H
             have c21b0 : decide (0 ≤ (rd x5_1 x36_2)) = false := decide_eq_false c21
             clear c21
             (first | rw [c21b0] | (simp only [i64_w, i32_w]; rw [c21b0]) | skip)
             have H' := Aside0.mk H
             clear H
             go_wp2
             go_meet
             case rel => exact ⟨_, (false), (by first | rfl | (simp; done) | (simp [*]; done)), H', ⟨by have := HK1.out; have := HK2.out; first | omega | exact Nat.le_refl _⟩, ⟨by (with_reducible repeat (first | apply Kd.S_alloc | apply Kd.S_drewN | apply Kd.S_drew)); exact HO_8.out⟩, ⟨by (with_reducible repeat (first | apply Kd.R_alloc | apply Kd.R_drewN | apply Kd.R_drew)); exact HO_34.out⟩, ⟨bkq BK226⟩, ⟨by repeat (first | (with_reducible first | exact HB.out | apply below_alloc | apply pw_below_drewN | apply below_drew1 | refine below_set ?_ GE226.out) | exact HB.out)⟩⟩
           case rest =>
            clear HC19
            try clear c1
            try clear c2
            try clear p2 p2
            try clear q2 q2
            try clear hx2
            try clear c4
            try clear c5
            try clear c6
            try clear c6b0
            try clear p6 p6
            try clear c7
            try clear c7b0
            try clear c8
            try clear c8b0
            try clear c9
            try clear c12
            try clear c12b0
            try clear c12b1
            try clear c12b2
            try clear c16
            try clear c16b0
            try clear c17
            try clear c17b0
            try clear c18
            try clear c18b0
            try clear c20
            try clear c21
            try clear c21b0
            try clear p21
            try clear q21
            try clear hx21
            try clear hx218_0
            try clear hx225_0
            try clear p218
            try clear p225
            try clear q218
            try clear q225
            obtain ⟨kq, x48_18, rfl, HA, HJ18, HO_8, HO_34, BK226, HB⟩ := hcut
            cases kq with
            | zero => exact absurd HA.out (by simp [maquettelaw23_LiftUp.j2])
            | succ kj18 =>
             have H := HA.out
             clear HA
             simp only [maquettelaw23_LiftUp.j2] at H
             by_cases c22 : x48_18 = true
             ·subst c22
              have H1 : (if 0 ≤ (rd x5_1 x36_2) then (if (rd x5_1 x36_2) < (l1.length : Int) then (if 0 ≤ x36_2 then (if x36_2 < (t222.length : Int) then ((lift_Same.f kj18 ((rd_T64 t222 x36_2).f0) ((rd_T64 t222 x36_2).f1) ((rd_T64 t222 x36_2).f2) ((rd_T64 l1 (rd x5_1 x36_2)).f0) ((rd_T64 l1 (rd x5_1 x36_2)).f1) ((rd_T64 l1 (rd x5_1 x36_2)).f2)).bind fun t229 => (if t229 = true then (maquettelaw23_LiftUp.l1 kj18 l1 t222 x5_1 (x5_1.length : Int) (wrap64 (x36_2 + 1))) else (some false))) else (none)) else (none)) else (none)) else (none)) = some r := by rw [if_pos rfl] at H; exact H
              clear H
              have H := H1
              clear H1
              by_cases c23 : 0 ≤ (rd x5_1 x36_2)
              ·rw [if_pos c23] at H
               have c23b0 : decide (0 ≤ (rd x5_1 x36_2)) = true := decide_eq_true c23
               clear c23
               by_cases c24 : (rd x5_1 x36_2) < (l1.length : Int)
               ·rw [if_pos c24] at H
                have c24b0 : decide ((rd x5_1 x36_2) < (l1.length : Int)) = true := decide_eq_true c24
                clear c24
                by_cases c25 : 0 ≤ x36_2
                ·rw [if_pos c25] at H
                 have c25b0 : decide (0 ≤ x36_2) = true := decide_eq_true c25
                 clear c25
                 by_cases c26 : x36_2 < (t222.length : Int)
                 ·rw [if_pos c26] at H
                  have c26b0 : decide (x36_2 < (t222.length : Int)) = true := decide_eq_true c26
                  clear c26
                  replace H := Option.bind_eq_some_iff.mp H
                  obtain ⟨t229, A270, H⟩ := H
                  replace H : (if t229 = true then (maquettelaw23_LiftUp.l1 kj18 l1 t222 x5_1 (x5_1.length : Int) (wrap64 (x36_2 + 1))) else (some false)) = some r := H
                  have A27 := Aside0.mk A270
                  clear A270
                  by_cases c28 : t229 = true
                  ·subst c28
                   have H1 : (maquettelaw23_LiftUp.l1 kj18 l1 t222 x5_1 (x5_1.length : Int) (wrap64 (x36_2 + 1))) = some r := by rw [if_pos rfl] at H; exact H
                   clear H
                   have H := H1
                   clear H1
                   have H' := Aside0.mk H
                   clear H
                   have p227 : 0 ≤ ((rd x5_1 x36_2) : Int) := of_decide_eq_true (by first | (with_reducible assumption) | assumption)
                   have q227 : (rd x5_1 x36_2) < (l1.length : Int) := of_decide_eq_true (by first | (with_reducible assumption) | assumption)
                   obtain ⟨ad227, A227_2, c227_2, e227, hx227_0, hx227_1, hx227_2, hl227_2, hi227_2⟩ := at_T64 HR1.out (rd x5_1 x36_2) p227 q227
                   cases e227
                   replace hx227_0 := (HB.out.cell (World.block_lt_of_cell? w _ hx227_0)).trans hx227_0
                   replace hx227_1 := (HB.out.cell (World.block_lt_of_cell? w _ hx227_1)).trans hx227_1
                   replace hx227_2 := (HB.out.cell (World.block_lt_of_cell? w _ hx227_2)).trans hx227_2
                   have HR227_2 := Aside0.mk hi227_2
                   have HC227_2 := Aside0.mk hl227_2
                   clear hi227_2 hl227_2
                   replace p227 := eq_true p227
                   replace q227 := eq_true q227
                   obtain ⟨hcz29_0, hcz29_1, hcz29_2, hfz29_0, hfz29_1, hfz29_2⟩ := bc3 BK226
                   try go_wp2
                   have n0_ : Aside0 (Kd.S k64 64 (((wc.setCell ⟨gb226, 0, none⟩ (.bool ((rd_T64 l1 (rd x5_1 x36_2)).f0))).setCell ⟨gb226, 1, none⟩ (.bool ((rd_T64 l1 (rd x5_1 x36_2)).f1))).setCell ⟨gb226, 2, none⟩ (.slice A227_2 ((rd_T64 l1 (rd x5_1 x36_2)).f2).length c227_2)) w.heap.size (fun k_ => some k_ ≠ (.slice (some ad225) x5_1.length co13 : Value).ownBlock ∧ k_ ≠ gb226) (.slice Ao15 t222.length co15) t222) := ⟨by (with_reducible repeat (first | apply Kd.S_alloc | apply Kd.S_drewN | apply Kd.S_drew)); exact Kd.S_mono (Kd.S_far (p := ⟨gb226, 2, none⟩) (Kd.S_far (p := ⟨gb226, 1, none⟩) (Kd.S_far (p := ⟨gb226, 0, none⟩) (Kd.S_mono HO_8.out (fun k_ hk => (⟨hk, hk.2⟩ : _ ∧ k_ ≠ gb226))) (fun _ hk => hk.2) (.bool ((rd_T64 l1 (rd x5_1 x36_2)).f0))) (fun _ hk => hk.2) (.bool ((rd_T64 l1 (rd x5_1 x36_2)).f1))) (fun _ hk => hk.2) (.slice A227_2 ((rd_T64 l1 (rd x5_1 x36_2)).f2).length c227_2)) (fun _ hk => ⟨hk.1.1, hk.1.2⟩)⟩
                   have n1_ : Aside0 (Kd.R (Kd.int .i64) 3 (((wc.setCell ⟨gb226, 0, none⟩ (.bool ((rd_T64 l1 (rd x5_1 x36_2)).f0))).setCell ⟨gb226, 1, none⟩ (.bool ((rd_T64 l1 (rd x5_1 x36_2)).f1))).setCell ⟨gb226, 2, none⟩ (.slice A227_2 ((rd_T64 l1 (rd x5_1 x36_2)).f2).length c227_2)) w.heap.size (fun _ => True) (.slice (some ad225) x5_1.length co13) x5_1) := ⟨by (with_reducible repeat (first | apply Kd.R_alloc | apply Kd.R_drewN | apply Kd.R_drew)); exact Kd.R_mono (Kd.R_far (p := ⟨gb226, 2, none⟩) (Kd.R_far (p := ⟨gb226, 1, none⟩) (Kd.R_far (p := ⟨gb226, 0, none⟩) (Kd.R_types HO_34.out BK226.out (by decide)) (fun _ hk => hk.2) (.bool ((rd_T64 l1 (rd x5_1 x36_2)).f0))) (fun _ hk => hk.2) (.bool ((rd_T64 l1 (rd x5_1 x36_2)).f1))) (fun _ hk => hk.2) (.slice A227_2 ((rd_T64 l1 (rd x5_1 x36_2)).f2).length c227_2)) (fun _ hk => trivial)⟩
                   have n2_ : Aside0 ((((wc.setCell ⟨gb226, 0, none⟩ (.bool ((rd_T64 l1 (rd x5_1 x36_2)).f0))).setCell ⟨gb226, 1, none⟩ (.bool ((rd_T64 l1 (rd x5_1 x36_2)).f1))).setCell ⟨gb226, 2, none⟩ (.slice A227_2 ((rd_T64 l1 (rd x5_1 x36_2)).f2).length c227_2)).heap[gb226]? = some (.cells #[.bool ((rd_T64 l1 (rd x5_1 x36_2)).f0), .bool ((rd_T64 l1 (rd x5_1 x36_2)).f1), .slice A227_2 ((rd_T64 l1 (rd x5_1 x36_2)).f2).length c227_2] 64 (0, 0))) := ⟨bkp BK226⟩
                   have n3_ : Aside0 (Below w.heap.size w (((wc.setCell ⟨gb226, 0, none⟩ (.bool ((rd_T64 l1 (rd x5_1 x36_2)).f0))).setCell ⟨gb226, 1, none⟩ (.bool ((rd_T64 l1 (rd x5_1 x36_2)).f1))).setCell ⟨gb226, 2, none⟩ (.slice A227_2 ((rd_T64 l1 (rd x5_1 x36_2)).f2).length c227_2))) := ⟨by repeat (first | (with_reducible first | exact HB.out | apply below_alloc | apply pw_below_drewN | apply below_drew1 | refine below_set ?_ GE226.out) | exact HB.out)⟩
                   (try clear HO_8)
                   (try clear HO_34)
                   (try clear BK226)
                   (try clear HB)
                   generalize (((wc.setCell ⟨gb226, 0, none⟩ (.bool ((rd_T64 l1 (rd x5_1 x36_2)).f0))).setCell ⟨gb226, 1, none⟩ (.bool ((rd_T64 l1 (rd x5_1 x36_2)).f1))).setCell ⟨gb226, 2, none⟩ (.slice A227_2 ((rd_T64 l1 (rd x5_1 x36_2)).f2).length c227_2)) = w30 at n0_ n1_ n2_ n3_ ⊢
                   have HO_8 := n0_
                   have HO_34 := n1_
                   have BK226 := n2_
                   have HB := n3_
                   clear n0_ n1_ n2_ n3_
                   replace HO_8 := Aside0.mk (Kd.S_drew HO_8.out)
                   replace HO_34 := Aside0.mk (Kd.R_drew HO_34.out)
                   replace BK226 := Aside0.mk (blk_drew BK226.out)
                   replace HB := Aside0.mk (below_drew1 HB.out)
                   have p228 : 0 ≤ (x36_2 : Int) := of_decide_eq_true (by first | (with_reducible assumption) | assumption)
                   have q228 : x36_2 < (t222.length : Int) := of_decide_eq_true (by first | (with_reducible assumption) | assumption)
                   obtain ⟨ad228, A228_2, c228_2, e228, hx228_0, hx228_1, hx228_2, hl228_2, hi228_2⟩ := at_T64 (Kd.S_reads' HO_8.out).2.2 x36_2 p228 q228
                   cases e228
                   obtain ⟨ce228, hce228, hMe228, hcc228⟩ := Kd.S_get HO_8.out z64 x36_2 p228 (by first | exact q228 | exact of_decide_eq_true (by first | (with_reducible assumption) | assumption) | (have e_ := (Kd.S_reads' HO_8.out).1; omega))
                   obtain ⟨ve228_2, rfl, ge228_2⟩ := k64_openM hMe228
                   have hv228_2 := hcc228 2 _ rfl
                   rw [add_field _ _ 2 (by omega)] at hv228_2
                   replace hv228_2 := Option.some.inj (hv228_2.symm.trans hx228_2)
                   rw [hv228_2] at ge228_2
                   have HL228_2 := Aside0.mk (show Kd.R (Kd.int .i64) 3 _ _ _ _ ((rd_T64 t222 x36_2).f2) from ge228_2)
                   clear hv228_2 ge228_2
                   clear hcc228 hce228
                   have HR228_2 := Aside0.mk hi228_2
                   have HC228_2 := Aside0.mk hl228_2
                   clear hi228_2 hl228_2
                   replace p228 := eq_true p228
                   replace q228 := eq_true q228
                   refine start_ (n := 7) (S := fun w' => w'.cell? ⟨gb226, 0, none⟩ = some (.bool ((rd_T64 l1 (rd x5_1 x36_2)).f0)) ∧ w'.cell? ⟨gb226, 1, none⟩ = some (.bool ((rd_T64 l1 (rd x5_1 x36_2)).f1)) ∧ w'.cell? ⟨gb226, 2, none⟩ = some (.slice A227_2 ((rd_T64 l1 (rd x5_1 x36_2)).f2).length c227_2) ∧ w'.cell? (ad228.add ((x36_2).toNat * 3)) = some (.bool ((rd_T64 t222 x36_2).f0)) ∧ w'.cell? ⟨(ad228.add ((x36_2).toNat * 3)).block, (ad228.add ((x36_2).toNat * 3)).off + 1, none⟩ = some (.bool ((rd_T64 t222 x36_2).f1)) ∧ w'.cell? ⟨(ad228.add ((x36_2).toNat * 3)).block, (ad228.add ((x36_2).toNat * 3)).off + 2, none⟩ = some (.slice A228_2 ((rd_T64 t222 x36_2).f2).length c228_2)) (ds := []) #[false, false, false, false, false, false, false] (by kernel_rfl) rfl rfl ⟨(blk_cell BK226.out 0).trans rfl, (blk_cell BK226.out 1).trans rfl, (blk_cell BK226.out 2).trans rfl, hx228_0, hx228_1, hx228_2⟩ (fun hHeld => ?_)
                   generalize w30.drew = w31 at HO_8 HO_34 BK226 HB HL228_2 HR228_2 hx228_0 hx228_1 hx228_2 hHeld ⊢
                   refine pure_ (i := 0) (N := some 53) (v := ?_) (a' := ?_) #[true, false, false, false, false, false, false] rfl rfl (by kernel_rfl) (fun _ _ _ h => h) (Or.inl ⟨by rfl, ?_⟩) ?_ ?_
                   rotate_left
                   ·intro w'
                    go_simp
                    with_reducible rfl
                   rotate_left
                   ·simp only [Act.put, List.setIfInBounds_toArray, List.set_cons_zero, List.set_cons_succ, i64_w, i32_w]
                    rfl
                   refine pure_ (i := 1) (N := some 54) (v := ?_) (a' := ?_) #[true, true, false, false, false, false, false] rfl rfl (by kernel_rfl) (fun _ _ _ h => h) (Or.inl ⟨by rfl, ?_⟩) ?_ ?_
                   rotate_left
                   ·intro w'
                    go_simp
                    with_reducible rfl
                   rotate_left
                   ·simp only [Act.put, List.setIfInBounds_toArray, List.set_cons_zero, List.set_cons_succ, i64_w, i32_w]
                    rfl
                   refine pure_ (i := 2) (N := some 55) (v := ?_) (a' := ?_) #[true, true, true, false, false, false, false] rfl rfl (by kernel_rfl) (fun _ _ _ h => h) (Or.inl ⟨by rfl, ?_⟩) ?_ ?_
                   rotate_left
                   ·intro w'
                    go_simp
                    with_reducible rfl
                   rotate_left
                   ·simp only [Act.put, List.setIfInBounds_toArray, List.set_cons_zero, List.set_cons_succ, i64_w, i32_w]
                    rfl
                   refine take_ (i := 3) (N := some 56) (v := ?_) (a' := ?_) #[true, true, true, true, false, false, false] rfl rfl (by kernel_rfl) (fun _ _ _ h => h) (Or.inl ⟨by rfl, ?_⟩) hHeld ?_ ?_
                   rotate_left
                   ·rintro w' ⟨s0, s1, s2, s3, s4, s5⟩
                    go_simp
                    with_reducible rfl
                   rotate_left
                   ·simp only [Act.put, List.setIfInBounds_toArray, List.set_cons_zero, List.set_cons_succ, i64_w, i32_w]
                    rfl
                   refine take_ (i := 4) (N := some 57) (v := ?_) (a' := ?_) #[true, true, true, true, true, false, false] rfl rfl (by kernel_rfl) (fun _ _ _ h => h) (Or.inl ⟨by rfl, ?_⟩) hHeld ?_ ?_
                   rotate_left
                   ·rintro w' ⟨s0, s1, s2, s3, s4, s5⟩
                    go_simp
                    with_reducible rfl
                   rotate_left
                   ·simp only [Act.put, List.setIfInBounds_toArray, List.set_cons_zero, List.set_cons_succ, i64_w, i32_w]
                    rfl
                   refine one_ (i := 5) (N := some 58) #[true, true, true, true, true, true, false] rfl rfl (by kernel_rfl) (by decide) (fun K hK => ?_)
                   refine go1 Try.func22 #[.agg #[.bool ((rd_T64 t222 x36_2).f0), .bool ((rd_T64 t222 x36_2).f1), .slice A228_2 ((rd_T64 t222 x36_2).f2).length c228_2], .agg #[.bool ((rd_T64 l1 (rd x5_1 x36_2)).f0), .bool ((rd_T64 l1 (rd x5_1 x36_2)).f1), .slice A227_2 ((rd_T64 l1 (rd x5_1 x36_2)).f2).length c227_2]] ?_
                   with_reducible refine (lift_Same.calls kj18 ((rd_T64 t222 x36_2).f0) ((rd_T64 t222 x36_2).f1) _ _ ((rd_T64 t222 x36_2).f2) ((rd_T64 l1 (rd x5_1 x36_2)).f0) ((rd_T64 l1 (rd x5_1 x36_2)).f1) _ _ ((rd_T64 l1 (rd x5_1 x36_2)).f2) true _ ?side1 ?side2 ?side3 ?side4 A27.out).mono ?_
                   (case side1 => repeat (first | exact (by repeat (first | (with_reducible exact HR228_2.out) | (with_reducible refine Kd.C_alloc ?_ _) | (with_reducible refine Kd.C_drewN ?_ _) | (with_reducible refine Kd.C_drew ?_) | exact HR228_2.out)) | (with_reducible refine Kd.C_alloc ?_ _) | (with_reducible refine Kd.C_drewN ?_ _) | (with_reducible refine Kd.C_drew ?_)))
                   (case side2 => exact HC228_2.out)
                   (case side3 => repeat (first | exact (Kd.C_below HR227_2.out HB.out) | (with_reducible refine Kd.C_alloc ?_ _) | (with_reducible refine Kd.C_drewN ?_ _) | (with_reducible refine Kd.C_drew ?_)))
                   (case side4 => exact HC227_2.out)
                   rintro e w32 ⟨rfl, hb⟩
                   have HS3_ := (hb.cell (World.block_lt_of_cell? _ _ (hHeld.2.2.2.1))).trans (hHeld.2.2.2.1)
                   have HS4_ := (hb.cell (World.block_lt_of_cell? _ _ (hHeld.2.2.2.2.1))).trans (hHeld.2.2.2.2.1)
                   have HS5_ := (hb.cell (World.block_lt_of_cell? _ _ (hHeld.2.2.2.2.2))).trans (hHeld.2.2.2.2.2)
                   refine ⟨_, rfl, ?_⟩
                   replace HO_8 := Aside0.mk (Kd.S_below (kS HO_8) hb)
                   replace HO_34 := Aside0.mk (Kd.R_below (kR HO_34) hb)
                   replace HL228_2 := Aside0.mk (Kd.R_below (by (with_reducible repeat (first | apply Kd.R_alloc | apply Kd.R_drewN | apply Kd.R_drew)); exact HL228_2.out) hb)
                   replace BK226 := bkb BK226 hb
                   replace HR228_2 := Aside0.mk (Kd.C_below (by repeat (first | (with_reducible exact HR228_2.out) | (with_reducible refine Kd.C_alloc ?_ _) | (with_reducible refine Kd.C_drewN ?_ _) | (with_reducible refine Kd.C_drew ?_) | exact HR228_2.out)) hb)
                   replace HB := bst hb
                   (try clear hb)
                   (try clear hb2)
                   (try clear hk)
                   (try clear hi)
                   refine hK.out _ _ ⟨(blk_cell BK226.out 0).trans rfl, (blk_cell BK226.out 1).trans rfl, (blk_cell BK226.out 2).trans rfl, HS3_, HS4_, HS5_⟩ (fun hHeld => ?_)
                   clear hK K
                   refine nm (some 58) ?_
                   refine pure_ (i := 6) (N := some 59) (v := ?_) (a' := ?_) #[true, true, true, true, true, true, true] rfl rfl (by kernel_rfl) (fun _ _ _ h => h) (Or.inl ⟨by rfl, ?_⟩) ?_ ?_
                   rotate_left
                   ·intro w'
                    go_simp
                    with_reducible rfl
                   rotate_left
                   ·simp only [Act.put, List.setIfInBounds_toArray, List.set_cons_zero, List.set_cons_succ, i64_w, i32_w]
                    rfl
                   refine done_ (by kernel_rfl) ?_
                   try go_wp2
                   go_roundg kj18
                   case measure => have := HK1.out; have := HK2.out; have := HJ18.out; omega
                   case rel => exact ⟨(wrap64 (x36_2 + 1)), (by first | rfl | (simp; done) | (simp [*]; done)), H', ⟨by have := HK1.out; have := HK2.out; have := HJ18.out; omega⟩, ⟨by (with_reducible repeat (first | apply Kd.S_alloc | apply Kd.S_drewN | apply Kd.S_drew)); exact Kd.S_mono HO_8.out (fun _ hk => hk.1)⟩, ⟨by (with_reducible repeat (first | apply Kd.R_alloc | apply Kd.R_drewN | apply Kd.R_drew)); exact HO_34.out⟩, ⟨by repeat (first | (with_reducible first | exact HB.out | apply below_alloc | apply pw_below_drewN | apply below_drew1 | refine below_set ?_ GE226.out) | exact HB.out)⟩⟩
                  ·replace c28 := Bool.eq_false_iff.mpr c28
                   subst c28
                   have H1 : (some false) = some r := by rw [if_neg (show ¬ (false = true) by decide)] at H; exact H
                   clear H
                   have H := H1
                   clear H1
                   obtain rfl := Option.some.inj H
                   have p227 : 0 ≤ ((rd x5_1 x36_2) : Int) := of_decide_eq_true (by first | (with_reducible assumption) | assumption)
                   have q227 : (rd x5_1 x36_2) < (l1.length : Int) := of_decide_eq_true (by first | (with_reducible assumption) | assumption)
                   obtain ⟨ad227, A227_2, c227_2, e227, hx227_0, hx227_1, hx227_2, hl227_2, hi227_2⟩ := at_T64 HR1.out (rd x5_1 x36_2) p227 q227
                   cases e227
                   replace hx227_0 := (HB.out.cell (World.block_lt_of_cell? w _ hx227_0)).trans hx227_0
                   replace hx227_1 := (HB.out.cell (World.block_lt_of_cell? w _ hx227_1)).trans hx227_1
                   replace hx227_2 := (HB.out.cell (World.block_lt_of_cell? w _ hx227_2)).trans hx227_2
                   have HR227_2 := Aside0.mk hi227_2
                   have HC227_2 := Aside0.mk hl227_2
                   clear hi227_2 hl227_2
                   replace p227 := eq_true p227
                   replace q227 := eq_true q227
                   obtain ⟨hcz33_0, hcz33_1, hcz33_2, hfz33_0, hfz33_1, hfz33_2⟩ := bc3 BK226
                   try go_wp2
                   have n0_ : Aside0 (Kd.S k64 64 (((wc.setCell ⟨gb226, 0, none⟩ (.bool ((rd_T64 l1 (rd x5_1 x36_2)).f0))).setCell ⟨gb226, 1, none⟩ (.bool ((rd_T64 l1 (rd x5_1 x36_2)).f1))).setCell ⟨gb226, 2, none⟩ (.slice A227_2 ((rd_T64 l1 (rd x5_1 x36_2)).f2).length c227_2)) w.heap.size (fun k_ => some k_ ≠ (.slice (some ad225) x5_1.length co13 : Value).ownBlock ∧ k_ ≠ gb226) (.slice Ao15 t222.length co15) t222) := ⟨by (with_reducible repeat (first | apply Kd.S_alloc | apply Kd.S_drewN | apply Kd.S_drew)); exact Kd.S_mono (Kd.S_far (p := ⟨gb226, 2, none⟩) (Kd.S_far (p := ⟨gb226, 1, none⟩) (Kd.S_far (p := ⟨gb226, 0, none⟩) (Kd.S_mono HO_8.out (fun k_ hk => (⟨hk, hk.2⟩ : _ ∧ k_ ≠ gb226))) (fun _ hk => hk.2) (.bool ((rd_T64 l1 (rd x5_1 x36_2)).f0))) (fun _ hk => hk.2) (.bool ((rd_T64 l1 (rd x5_1 x36_2)).f1))) (fun _ hk => hk.2) (.slice A227_2 ((rd_T64 l1 (rd x5_1 x36_2)).f2).length c227_2)) (fun _ hk => ⟨hk.1.1, hk.1.2⟩)⟩
                   have n1_ : Aside0 (Kd.R (Kd.int .i64) 3 (((wc.setCell ⟨gb226, 0, none⟩ (.bool ((rd_T64 l1 (rd x5_1 x36_2)).f0))).setCell ⟨gb226, 1, none⟩ (.bool ((rd_T64 l1 (rd x5_1 x36_2)).f1))).setCell ⟨gb226, 2, none⟩ (.slice A227_2 ((rd_T64 l1 (rd x5_1 x36_2)).f2).length c227_2)) w.heap.size (fun _ => True) (.slice (some ad225) x5_1.length co13) x5_1) := ⟨by (with_reducible repeat (first | apply Kd.R_alloc | apply Kd.R_drewN | apply Kd.R_drew)); exact Kd.R_mono (Kd.R_far (p := ⟨gb226, 2, none⟩) (Kd.R_far (p := ⟨gb226, 1, none⟩) (Kd.R_far (p := ⟨gb226, 0, none⟩) (Kd.R_types HO_34.out BK226.out (by decide)) (fun _ hk => hk.2) (.bool ((rd_T64 l1 (rd x5_1 x36_2)).f0))) (fun _ hk => hk.2) (.bool ((rd_T64 l1 (rd x5_1 x36_2)).f1))) (fun _ hk => hk.2) (.slice A227_2 ((rd_T64 l1 (rd x5_1 x36_2)).f2).length c227_2)) (fun _ hk => trivial)⟩
                   have n2_ : Aside0 ((((wc.setCell ⟨gb226, 0, none⟩ (.bool ((rd_T64 l1 (rd x5_1 x36_2)).f0))).setCell ⟨gb226, 1, none⟩ (.bool ((rd_T64 l1 (rd x5_1 x36_2)).f1))).setCell ⟨gb226, 2, none⟩ (.slice A227_2 ((rd_T64 l1 (rd x5_1 x36_2)).f2).length c227_2)).heap[gb226]? = some (.cells #[.bool ((rd_T64 l1 (rd x5_1 x36_2)).f0), .bool ((rd_T64 l1 (rd x5_1 x36_2)).f1), .slice A227_2 ((rd_T64 l1 (rd x5_1 x36_2)).f2).length c227_2] 64 (0, 0))) := ⟨bkp BK226⟩
                   have n3_ : Aside0 (Below w.heap.size w (((wc.setCell ⟨gb226, 0, none⟩ (.bool ((rd_T64 l1 (rd x5_1 x36_2)).f0))).setCell ⟨gb226, 1, none⟩ (.bool ((rd_T64 l1 (rd x5_1 x36_2)).f1))).setCell ⟨gb226, 2, none⟩ (.slice A227_2 ((rd_T64 l1 (rd x5_1 x36_2)).f2).length c227_2))) := ⟨by repeat (first | (with_reducible first | exact HB.out | apply below_alloc | apply pw_below_drewN | apply below_drew1 | refine below_set ?_ GE226.out) | exact HB.out)⟩
                   (try clear HO_8)
                   (try clear HO_34)
                   (try clear BK226)
                   (try clear HB)
                   generalize (((wc.setCell ⟨gb226, 0, none⟩ (.bool ((rd_T64 l1 (rd x5_1 x36_2)).f0))).setCell ⟨gb226, 1, none⟩ (.bool ((rd_T64 l1 (rd x5_1 x36_2)).f1))).setCell ⟨gb226, 2, none⟩ (.slice A227_2 ((rd_T64 l1 (rd x5_1 x36_2)).f2).length c227_2)) = w34 at n0_ n1_ n2_ n3_ ⊢
                   have HO_8 := n0_
                   have HO_34 := n1_
                   have BK226 := n2_
                   have HB := n3_
                   clear n0_ n1_ n2_ n3_
                   replace HO_8 := Aside0.mk (Kd.S_drew HO_8.out)
                   replace HO_34 := Aside0.mk (Kd.R_drew HO_34.out)
                   replace BK226 := Aside0.mk (blk_drew BK226.out)
                   replace HB := Aside0.mk (below_drew1 HB.out)
                   have p228 : 0 ≤ (x36_2 : Int) := of_decide_eq_true (by first | (with_reducible assumption) | assumption)
                   have q228 : x36_2 < (t222.length : Int) := of_decide_eq_true (by first | (with_reducible assumption) | assumption)
                   obtain ⟨ad228, A228_2, c228_2, e228, hx228_0, hx228_1, hx228_2, hl228_2, hi228_2⟩ := at_T64 (Kd.S_reads' HO_8.out).2.2 x36_2 p228 q228
                   cases e228
                   obtain ⟨ce228, hce228, hMe228, hcc228⟩ := Kd.S_get HO_8.out z64 x36_2 p228 (by first | exact q228 | exact of_decide_eq_true (by first | (with_reducible assumption) | assumption) | (have e_ := (Kd.S_reads' HO_8.out).1; omega))
                   obtain ⟨ve228_2, rfl, ge228_2⟩ := k64_openM hMe228
                   have hv228_2 := hcc228 2 _ rfl
                   rw [add_field _ _ 2 (by omega)] at hv228_2
                   replace hv228_2 := Option.some.inj (hv228_2.symm.trans hx228_2)
                   rw [hv228_2] at ge228_2
                   have HL228_2 := Aside0.mk (show Kd.R (Kd.int .i64) 3 _ _ _ _ ((rd_T64 t222 x36_2).f2) from ge228_2)
                   clear hv228_2 ge228_2
                   clear hcc228 hce228
                   have HR228_2 := Aside0.mk hi228_2
                   have HC228_2 := Aside0.mk hl228_2
                   clear hi228_2 hl228_2
                   replace p228 := eq_true p228
                   replace q228 := eq_true q228
                   refine start_ (n := 7) (S := fun w' => w'.cell? ⟨gb226, 0, none⟩ = some (.bool ((rd_T64 l1 (rd x5_1 x36_2)).f0)) ∧ w'.cell? ⟨gb226, 1, none⟩ = some (.bool ((rd_T64 l1 (rd x5_1 x36_2)).f1)) ∧ w'.cell? ⟨gb226, 2, none⟩ = some (.slice A227_2 ((rd_T64 l1 (rd x5_1 x36_2)).f2).length c227_2) ∧ w'.cell? (ad228.add ((x36_2).toNat * 3)) = some (.bool ((rd_T64 t222 x36_2).f0)) ∧ w'.cell? ⟨(ad228.add ((x36_2).toNat * 3)).block, (ad228.add ((x36_2).toNat * 3)).off + 1, none⟩ = some (.bool ((rd_T64 t222 x36_2).f1)) ∧ w'.cell? ⟨(ad228.add ((x36_2).toNat * 3)).block, (ad228.add ((x36_2).toNat * 3)).off + 2, none⟩ = some (.slice A228_2 ((rd_T64 t222 x36_2).f2).length c228_2)) (ds := []) #[false, false, false, false, false, false, false] (by kernel_rfl) rfl rfl ⟨(blk_cell BK226.out 0).trans rfl, (blk_cell BK226.out 1).trans rfl, (blk_cell BK226.out 2).trans rfl, hx228_0, hx228_1, hx228_2⟩ (fun hHeld => ?_)
                   generalize w34.drew = w35 at HO_8 HO_34 BK226 HB HL228_2 HR228_2 hx228_0 hx228_1 hx228_2 hHeld ⊢
                   refine pure_ (i := 0) (N := some 53) (v := ?_) (a' := ?_) #[true, false, false, false, false, false, false] rfl rfl (by kernel_rfl) (fun _ _ _ h => h) (Or.inl ⟨by rfl, ?_⟩) ?_ ?_
                   rotate_left
                   ·intro w'
                    go_simp
                    with_reducible rfl
                   rotate_left
                   ·simp only [Act.put, List.setIfInBounds_toArray, List.set_cons_zero, List.set_cons_succ, i64_w, i32_w]
                    rfl
                   refine pure_ (i := 1) (N := some 54) (v := ?_) (a' := ?_) #[true, true, false, false, false, false, false] rfl rfl (by kernel_rfl) (fun _ _ _ h => h) (Or.inl ⟨by rfl, ?_⟩) ?_ ?_
                   rotate_left
                   ·intro w'
                    go_simp
                    with_reducible rfl
                   rotate_left
                   ·simp only [Act.put, List.setIfInBounds_toArray, List.set_cons_zero, List.set_cons_succ, i64_w, i32_w]
                    rfl
                   refine pure_ (i := 2) (N := some 55) (v := ?_) (a' := ?_) #[true, true, true, false, false, false, false] rfl rfl (by kernel_rfl) (fun _ _ _ h => h) (Or.inl ⟨by rfl, ?_⟩) ?_ ?_
                   rotate_left
                   ·intro w'
                    go_simp
                    with_reducible rfl
                   rotate_left
                   ·simp only [Act.put, List.setIfInBounds_toArray, List.set_cons_zero, List.set_cons_succ, i64_w, i32_w]
                    rfl
                   refine take_ (i := 3) (N := some 56) (v := ?_) (a' := ?_) #[true, true, true, true, false, false, false] rfl rfl (by kernel_rfl) (fun _ _ _ h => h) (Or.inl ⟨by rfl, ?_⟩) hHeld ?_ ?_
                   rotate_left
                   ·rintro w' ⟨s0, s1, s2, s3, s4, s5⟩
                    go_simp
                    with_reducible rfl
                   rotate_left
                   ·simp only [Act.put, List.setIfInBounds_toArray, List.set_cons_zero, List.set_cons_succ, i64_w, i32_w]
                    rfl
                   refine take_ (i := 4) (N := some 57) (v := ?_) (a' := ?_) #[true, true, true, true, true, false, false] rfl rfl (by kernel_rfl) (fun _ _ _ h => h) (Or.inl ⟨by rfl, ?_⟩) hHeld ?_ ?_
                   rotate_left
                   ·rintro w' ⟨s0, s1, s2, s3, s4, s5⟩
                    go_simp
                    with_reducible rfl
                   rotate_left
                   ·simp only [Act.put, List.setIfInBounds_toArray, List.set_cons_zero, List.set_cons_succ, i64_w, i32_w]
                    rfl
                   refine one_ (i := 5) (N := some 58) #[true, true, true, true, true, true, false] rfl rfl (by kernel_rfl) (by decide) (fun K hK => ?_)
                   refine go1 Try.func22 #[.agg #[.bool ((rd_T64 t222 x36_2).f0), .bool ((rd_T64 t222 x36_2).f1), .slice A228_2 ((rd_T64 t222 x36_2).f2).length c228_2], .agg #[.bool ((rd_T64 l1 (rd x5_1 x36_2)).f0), .bool ((rd_T64 l1 (rd x5_1 x36_2)).f1), .slice A227_2 ((rd_T64 l1 (rd x5_1 x36_2)).f2).length c227_2]] ?_
                   with_reducible refine (lift_Same.calls kj18 ((rd_T64 t222 x36_2).f0) ((rd_T64 t222 x36_2).f1) _ _ ((rd_T64 t222 x36_2).f2) ((rd_T64 l1 (rd x5_1 x36_2)).f0) ((rd_T64 l1 (rd x5_1 x36_2)).f1) _ _ ((rd_T64 l1 (rd x5_1 x36_2)).f2) false _ ?side1 ?side2 ?side3 ?side4 A27.out).mono ?_
                   (case side1 => repeat (first | exact (by repeat (first | (with_reducible exact HR228_2.out) | (with_reducible refine Kd.C_alloc ?_ _) | (with_reducible refine Kd.C_drewN ?_ _) | (with_reducible refine Kd.C_drew ?_) | exact HR228_2.out)) | (with_reducible refine Kd.C_alloc ?_ _) | (with_reducible refine Kd.C_drewN ?_ _) | (with_reducible refine Kd.C_drew ?_)))
                   (case side2 => exact HC228_2.out)
                   (case side3 => repeat (first | exact (Kd.C_below HR227_2.out HB.out) | (with_reducible refine Kd.C_alloc ?_ _) | (with_reducible refine Kd.C_drewN ?_ _) | (with_reducible refine Kd.C_drew ?_)))
                   (case side4 => exact HC227_2.out)
                   rintro e w36 ⟨rfl, hb⟩
                   have HS3_ := (hb.cell (World.block_lt_of_cell? _ _ (hHeld.2.2.2.1))).trans (hHeld.2.2.2.1)
                   have HS4_ := (hb.cell (World.block_lt_of_cell? _ _ (hHeld.2.2.2.2.1))).trans (hHeld.2.2.2.2.1)
                   have HS5_ := (hb.cell (World.block_lt_of_cell? _ _ (hHeld.2.2.2.2.2))).trans (hHeld.2.2.2.2.2)
                   refine ⟨_, rfl, ?_⟩
                   replace HO_8 := Aside0.mk (Kd.S_below (kS HO_8) hb)
                   replace HO_34 := Aside0.mk (Kd.R_below (kR HO_34) hb)
                   replace HL228_2 := Aside0.mk (Kd.R_below (by (with_reducible repeat (first | apply Kd.R_alloc | apply Kd.R_drewN | apply Kd.R_drew)); exact HL228_2.out) hb)
                   replace BK226 := bkb BK226 hb
                   replace HR228_2 := Aside0.mk (Kd.C_below (by repeat (first | (with_reducible exact HR228_2.out) | (with_reducible refine Kd.C_alloc ?_ _) | (with_reducible refine Kd.C_drewN ?_ _) | (with_reducible refine Kd.C_drew ?_) | exact HR228_2.out)) hb)
                   replace HB := bst hb
                   (try clear hb)
                   (try clear hb2)
                   (try clear hk)
                   (try clear hi)
                   refine hK.out _ _ ⟨(blk_cell BK226.out 0).trans rfl, (blk_cell BK226.out 1).trans rfl, (blk_cell BK226.out 2).trans rfl, HS3_, HS4_, HS5_⟩ (fun hHeld => ?_)
                   clear hK K
                   refine nm (some 58) ?_
                   refine pure_ (i := 6) (N := some 59) (v := ?_) (a' := ?_) #[true, true, true, true, true, true, true] rfl rfl (by kernel_rfl) (fun _ _ _ h => h) (Or.inl ⟨by rfl, ?_⟩) ?_ ?_
                   rotate_left
                   ·intro w'
                    go_simp
                    with_reducible rfl
                   rotate_left
                   ·simp only [Act.put, List.setIfInBounds_toArray, List.set_cons_zero, List.set_cons_succ, i64_w, i32_w]
                    rfl
                   refine done_ (by kernel_rfl) ?_
                   try go_wp2
                   go_ret
                   exact ⟨by first | rfl | (simp [errW_none, errW_some] <;> rfl) | (simp [*, errW_none, errW_some] <;> rfl), by repeat (first | (with_reducible first | exact HB.out | apply below_alloc | apply pw_below_drewN | apply below_drew1 | refine below_set ?_ GE226.out) | exact HB.out)⟩
                 ·rw [if_neg c26] at H
                  exact absurd H (by simp)
                ·rw [if_neg c25] at H
                 exact absurd H (by simp)
               ·rw [if_neg c24] at H
                exact absurd H (by simp)
              ·rw [if_neg c23] at H
               exact absurd H (by simp)
             ·replace c22 := Bool.eq_false_iff.mpr c22
              subst c22
              have H1 : (if 0 ≤ x36_2 then (if x36_2 < (t222.length : Int) then ((lift_Same.f kj18 ((rd_T64 t222 x36_2).f0) ((rd_T64 t222 x36_2).f1) ((rd_T64 t222 x36_2).f2) false false ([] : List Int)).bind fun t231 => (if t231 = true then (maquettelaw23_LiftUp.l1 kj18 l1 t222 x5_1 (x5_1.length : Int) (wrap64 (x36_2 + 1))) else (some false))) else (none)) else (none)) = some r := by rw [if_neg (show ¬ (false = true) by decide)] at H; exact H
              clear H
              have H := H1
              clear H1
              by_cases c37 : 0 ≤ x36_2
              ·rw [if_pos c37] at H
               have c37b0 : decide (0 ≤ x36_2) = true := decide_eq_true c37
               clear c37
               by_cases c38 : x36_2 < (t222.length : Int)
               ·rw [if_pos c38] at H
                have c38b0 : decide (x36_2 < (t222.length : Int)) = true := decide_eq_true c38
                clear c38
                replace H := Option.bind_eq_some_iff.mp H
                obtain ⟨t231, A390, H⟩ := H
                replace H : (if t231 = true then (maquettelaw23_LiftUp.l1 kj18 l1 t222 x5_1 (x5_1.length : Int) (wrap64 (x36_2 + 1))) else (some false)) = some r := H
                have A39 := Aside0.mk A390
                clear A390
                by_cases c40 : t231 = true
                ·subst c40
                 have H1 : (maquettelaw23_LiftUp.l1 kj18 l1 t222 x5_1 (x5_1.length : Int) (wrap64 (x36_2 + 1))) = some r := by rw [if_pos rfl] at H; exact H
                 clear H
                 have H := H1
                 clear H1
                 have H' := Aside0.mk H
                 clear H
                 try go_wp2
                 replace HO_8 := Aside0.mk (Kd.S_drew HO_8.out)
                 replace HO_34 := Aside0.mk (Kd.R_drew HO_34.out)
                 replace BK226 := Aside0.mk (blk_drew BK226.out)
                 replace HB := Aside0.mk (below_drew1 HB.out)
                 have p230 : 0 ≤ (x36_2 : Int) := of_decide_eq_true (by first | (with_reducible assumption) | assumption)
                 have q230 : x36_2 < (t222.length : Int) := of_decide_eq_true (by first | (with_reducible assumption) | assumption)
                 obtain ⟨ad230, A230_2, c230_2, e230, hx230_0, hx230_1, hx230_2, hl230_2, hi230_2⟩ := at_T64 (Kd.S_reads' HO_8.out).2.2 x36_2 p230 q230
                 cases e230
                 obtain ⟨ce230, hce230, hMe230, hcc230⟩ := Kd.S_get HO_8.out z64 x36_2 p230 (by first | exact q230 | exact of_decide_eq_true (by first | (with_reducible assumption) | assumption) | (have e_ := (Kd.S_reads' HO_8.out).1; omega))
                 obtain ⟨ve230_2, rfl, ge230_2⟩ := k64_openM hMe230
                 have hv230_2 := hcc230 2 _ rfl
                 rw [add_field _ _ 2 (by omega)] at hv230_2
                 replace hv230_2 := Option.some.inj (hv230_2.symm.trans hx230_2)
                 rw [hv230_2] at ge230_2
                 have HL230_2 := Aside0.mk (show Kd.R (Kd.int .i64) 3 _ _ _ _ ((rd_T64 t222 x36_2).f2) from ge230_2)
                 clear hv230_2 ge230_2
                 clear hcc230 hce230
                 have HR230_2 := Aside0.mk hi230_2
                 have HC230_2 := Aside0.mk hl230_2
                 clear hi230_2 hl230_2
                 replace p230 := eq_true p230
                 replace q230 := eq_true q230
                 refine start_ (n := 7) (S := fun w' => w'.cell? ⟨gb226, 0, none⟩ = some (.bool false) ∧ w'.cell? ⟨gb226, 1, none⟩ = some (.bool false) ∧ w'.cell? ⟨gb226, 2, none⟩ = some (.slice none 0 0) ∧ w'.cell? (ad230.add ((x36_2).toNat * 3)) = some (.bool ((rd_T64 t222 x36_2).f0)) ∧ w'.cell? ⟨(ad230.add ((x36_2).toNat * 3)).block, (ad230.add ((x36_2).toNat * 3)).off + 1, none⟩ = some (.bool ((rd_T64 t222 x36_2).f1)) ∧ w'.cell? ⟨(ad230.add ((x36_2).toNat * 3)).block, (ad230.add ((x36_2).toNat * 3)).off + 2, none⟩ = some (.slice A230_2 ((rd_T64 t222 x36_2).f2).length c230_2)) (ds := []) #[false, false, false, false, false, false, false] (by kernel_rfl) rfl rfl ⟨(blk_cell BK226.out 0).trans rfl, (blk_cell BK226.out 1).trans rfl, (blk_cell BK226.out 2).trans rfl, hx230_0, hx230_1, hx230_2⟩ (fun hHeld => ?_)
                 generalize wc.drew = w41 at HO_8 HO_34 BK226 HB HL230_2 HR230_2 hx230_0 hx230_1 hx230_2 hHeld ⊢
                 refine pure_ (i := 0) (N := some 53) (v := ?_) (a' := ?_) #[true, false, false, false, false, false, false] rfl rfl (by kernel_rfl) (fun _ _ _ h => h) (Or.inl ⟨by rfl, ?_⟩) ?_ ?_
                 rotate_left
                 ·intro w'
                  go_simp
                  with_reducible rfl
                 rotate_left
                 ·simp only [Act.put, List.setIfInBounds_toArray, List.set_cons_zero, List.set_cons_succ, i64_w, i32_w]
                  rfl
                 refine pure_ (i := 1) (N := some 54) (v := ?_) (a' := ?_) #[true, true, false, false, false, false, false] rfl rfl (by kernel_rfl) (fun _ _ _ h => h) (Or.inl ⟨by rfl, ?_⟩) ?_ ?_
                 rotate_left
                 ·intro w'
                  go_simp
                  with_reducible rfl
                 rotate_left
                 ·simp only [Act.put, List.setIfInBounds_toArray, List.set_cons_zero, List.set_cons_succ, i64_w, i32_w]
                  rfl
                 refine pure_ (i := 2) (N := some 55) (v := ?_) (a' := ?_) #[true, true, true, false, false, false, false] rfl rfl (by kernel_rfl) (fun _ _ _ h => h) (Or.inl ⟨by rfl, ?_⟩) ?_ ?_
                 rotate_left
                 ·intro w'
                  go_simp
                  with_reducible rfl
                 rotate_left
                 ·simp only [Act.put, List.setIfInBounds_toArray, List.set_cons_zero, List.set_cons_succ, i64_w, i32_w]
                  rfl
                 refine take_ (i := 3) (N := some 56) (v := ?_) (a' := ?_) #[true, true, true, true, false, false, false] rfl rfl (by kernel_rfl) (fun _ _ _ h => h) (Or.inl ⟨by rfl, ?_⟩) hHeld ?_ ?_
                 rotate_left
                 ·rintro w' ⟨s0, s1, s2, s3, s4, s5⟩
                  go_simp
                  with_reducible rfl
                 rotate_left
                 ·simp only [Act.put, List.setIfInBounds_toArray, List.set_cons_zero, List.set_cons_succ, i64_w, i32_w]
                  rfl
                 refine take_ (i := 4) (N := some 57) (v := ?_) (a' := ?_) #[true, true, true, true, true, false, false] rfl rfl (by kernel_rfl) (fun _ _ _ h => h) (Or.inl ⟨by rfl, ?_⟩) hHeld ?_ ?_
                 rotate_left
                 ·rintro w' ⟨s0, s1, s2, s3, s4, s5⟩
                  go_simp
                  with_reducible rfl
                 rotate_left
                 ·simp only [Act.put, List.setIfInBounds_toArray, List.set_cons_zero, List.set_cons_succ, i64_w, i32_w]
                  rfl
                 refine one_ (i := 5) (N := some 58) #[true, true, true, true, true, true, false] rfl rfl (by kernel_rfl) (by decide) (fun K hK => ?_)
                 refine go1 Try.func22 #[.agg #[.bool ((rd_T64 t222 x36_2).f0), .bool ((rd_T64 t222 x36_2).f1), .slice A230_2 ((rd_T64 t222 x36_2).f2).length c230_2], .agg #[.bool false, .bool false, .slice none 0 0]] ?_
                 refine (lift_Same.calls kj18 ((rd_T64 t222 x36_2).f0) ((rd_T64 t222 x36_2).f1) _ _ ((rd_T64 t222 x36_2).f2) false false _ _ ([] : List Int) true _ ?side1 ?side2 ?side3 ?side4 A39.out).mono ?_
                 (case side1 => repeat (first | exact (by repeat (first | (with_reducible exact HR230_2.out) | (with_reducible refine Kd.C_alloc ?_ _) | (with_reducible refine Kd.C_drewN ?_ _) | (with_reducible refine Kd.C_drew ?_) | exact HR230_2.out)) | (with_reducible refine Kd.C_alloc ?_ _) | (with_reducible refine Kd.C_drewN ?_ _) | (with_reducible refine Kd.C_drew ?_)))
                 (case side2 => exact HC230_2.out)
                 (case side3 => exact Kd.C_nil _ _)
                 (case side4 => exact Nat.le_refl _)
                 rintro e w42 ⟨rfl, hb⟩
                 have HS3_ := (hb.cell (World.block_lt_of_cell? _ _ (hHeld.2.2.2.1))).trans (hHeld.2.2.2.1)
                 have HS4_ := (hb.cell (World.block_lt_of_cell? _ _ (hHeld.2.2.2.2.1))).trans (hHeld.2.2.2.2.1)
                 have HS5_ := (hb.cell (World.block_lt_of_cell? _ _ (hHeld.2.2.2.2.2))).trans (hHeld.2.2.2.2.2)
                 refine ⟨_, rfl, ?_⟩
                 replace HO_8 := Aside0.mk (Kd.S_below (kS HO_8) hb)
                 replace HO_34 := Aside0.mk (Kd.R_below (kR HO_34) hb)
                 replace HL230_2 := Aside0.mk (Kd.R_below (by (with_reducible repeat (first | apply Kd.R_alloc | apply Kd.R_drewN | apply Kd.R_drew)); exact HL230_2.out) hb)
                 replace BK226 := bkb BK226 hb
                 replace HR230_2 := Aside0.mk (Kd.C_below (by repeat (first | (with_reducible exact HR230_2.out) | (with_reducible refine Kd.C_alloc ?_ _) | (with_reducible refine Kd.C_drewN ?_ _) | (with_reducible refine Kd.C_drew ?_) | exact HR230_2.out)) hb)
                 replace HB := bst hb
                 (try clear hb)
                 (try clear hb2)
                 (try clear hk)
                 (try clear hi)
                 refine hK.out _ _ ⟨(blk_cell BK226.out 0).trans rfl, (blk_cell BK226.out 1).trans rfl, (blk_cell BK226.out 2).trans rfl, HS3_, HS4_, HS5_⟩ (fun hHeld => ?_)
                 clear hK K
                 refine nm (some 58) ?_
                 refine pure_ (i := 6) (N := some 59) (v := ?_) (a' := ?_) #[true, true, true, true, true, true, true] rfl rfl (by kernel_rfl) (fun _ _ _ h => h) (Or.inl ⟨by rfl, ?_⟩) ?_ ?_
                 rotate_left
                 ·intro w'
                  go_simp
                  with_reducible rfl
                 rotate_left
                 ·simp only [Act.put, List.setIfInBounds_toArray, List.set_cons_zero, List.set_cons_succ, i64_w, i32_w]
                  rfl
                 refine done_ (by kernel_rfl) ?_
                 try go_wp2
                 go_roundg kj18
                 case measure => have := HK1.out; have := HK2.out; have := HJ18.out; omega
                 case rel => exact ⟨(wrap64 (x36_2 + 1)), (by first | rfl | (simp; done) | (simp [*]; done)), H', ⟨by have := HK1.out; have := HK2.out; have := HJ18.out; omega⟩, ⟨by (with_reducible repeat (first | apply Kd.S_alloc | apply Kd.S_drewN | apply Kd.S_drew)); exact Kd.S_mono HO_8.out (fun _ hk => hk.1)⟩, ⟨by (with_reducible repeat (first | apply Kd.R_alloc | apply Kd.R_drewN | apply Kd.R_drew)); exact HO_34.out⟩, ⟨by repeat (first | (with_reducible first | exact HB.out | apply below_alloc | apply pw_below_drewN | apply below_drew1 | refine below_set ?_ GE226.out) | exact HB.out)⟩⟩
                ·replace c40 := Bool.eq_false_iff.mpr c40
                 subst c40
                 have H1 : (some false) = some r := by rw [if_neg (show ¬ (false = true) by decide)] at H; exact H
                 clear H
                 have H := H1
                 clear H1
                 obtain rfl := Option.some.inj H
                 try go_wp2
                 replace HO_8 := Aside0.mk (Kd.S_drew HO_8.out)
                 replace HO_34 := Aside0.mk (Kd.R_drew HO_34.out)
                 replace BK226 := Aside0.mk (blk_drew BK226.out)
                 replace HB := Aside0.mk (below_drew1 HB.out)
                 have p230 : 0 ≤ (x36_2 : Int) := of_decide_eq_true (by first | (with_reducible assumption) | assumption)
                 have q230 : x36_2 < (t222.length : Int) := of_decide_eq_true (by first | (with_reducible assumption) | assumption)
                 obtain ⟨ad230, A230_2, c230_2, e230, hx230_0, hx230_1, hx230_2, hl230_2, hi230_2⟩ := at_T64 (Kd.S_reads' HO_8.out).2.2 x36_2 p230 q230
                 cases e230
                 obtain ⟨ce230, hce230, hMe230, hcc230⟩ := Kd.S_get HO_8.out z64 x36_2 p230 (by first | exact q230 | exact of_decide_eq_true (by first | (with_reducible assumption) | assumption) | (have e_ := (Kd.S_reads' HO_8.out).1; omega))
                 obtain ⟨ve230_2, rfl, ge230_2⟩ := k64_openM hMe230
                 have hv230_2 := hcc230 2 _ rfl
                 rw [add_field _ _ 2 (by omega)] at hv230_2
                 replace hv230_2 := Option.some.inj (hv230_2.symm.trans hx230_2)
                 rw [hv230_2] at ge230_2
                 have HL230_2 := Aside0.mk (show Kd.R (Kd.int .i64) 3 _ _ _ _ ((rd_T64 t222 x36_2).f2) from ge230_2)
                 clear hv230_2 ge230_2
                 clear hcc230 hce230
                 have HR230_2 := Aside0.mk hi230_2
                 have HC230_2 := Aside0.mk hl230_2
                 clear hi230_2 hl230_2
                 replace p230 := eq_true p230
                 replace q230 := eq_true q230
                 refine start_ (n := 7) (S := fun w' => w'.cell? ⟨gb226, 0, none⟩ = some (.bool false) ∧ w'.cell? ⟨gb226, 1, none⟩ = some (.bool false) ∧ w'.cell? ⟨gb226, 2, none⟩ = some (.slice none 0 0) ∧ w'.cell? (ad230.add ((x36_2).toNat * 3)) = some (.bool ((rd_T64 t222 x36_2).f0)) ∧ w'.cell? ⟨(ad230.add ((x36_2).toNat * 3)).block, (ad230.add ((x36_2).toNat * 3)).off + 1, none⟩ = some (.bool ((rd_T64 t222 x36_2).f1)) ∧ w'.cell? ⟨(ad230.add ((x36_2).toNat * 3)).block, (ad230.add ((x36_2).toNat * 3)).off + 2, none⟩ = some (.slice A230_2 ((rd_T64 t222 x36_2).f2).length c230_2)) (ds := []) #[false, false, false, false, false, false, false] (by kernel_rfl) rfl rfl ⟨(blk_cell BK226.out 0).trans rfl, (blk_cell BK226.out 1).trans rfl, (blk_cell BK226.out 2).trans rfl, hx230_0, hx230_1, hx230_2⟩ (fun hHeld => ?_)
                 generalize wc.drew = w43 at HO_8 HO_34 BK226 HB HL230_2 HR230_2 hx230_0 hx230_1 hx230_2 hHeld ⊢
                 refine pure_ (i := 0) (N := some 53) (v := ?_) (a' := ?_) #[true, false, false, false, false, false, false] rfl rfl (by kernel_rfl) (fun _ _ _ h => h) (Or.inl ⟨by rfl, ?_⟩) ?_ ?_
                 rotate_left
                 ·intro w'
                  go_simp
                  with_reducible rfl
                 rotate_left
                 ·simp only [Act.put, List.setIfInBounds_toArray, List.set_cons_zero, List.set_cons_succ, i64_w, i32_w]
                  rfl
                 refine pure_ (i := 1) (N := some 54) (v := ?_) (a' := ?_) #[true, true, false, false, false, false, false] rfl rfl (by kernel_rfl) (fun _ _ _ h => h) (Or.inl ⟨by rfl, ?_⟩) ?_ ?_
                 rotate_left
                 ·intro w'
                  go_simp
                  with_reducible rfl
                 rotate_left
                 ·simp only [Act.put, List.setIfInBounds_toArray, List.set_cons_zero, List.set_cons_succ, i64_w, i32_w]
                  rfl
                 refine pure_ (i := 2) (N := some 55) (v := ?_) (a' := ?_) #[true, true, true, false, false, false, false] rfl rfl (by kernel_rfl) (fun _ _ _ h => h) (Or.inl ⟨by rfl, ?_⟩) ?_ ?_
                 rotate_left
                 ·intro w'
                  go_simp
                  with_reducible rfl
                 rotate_left
                 ·simp only [Act.put, List.setIfInBounds_toArray, List.set_cons_zero, List.set_cons_succ, i64_w, i32_w]
                  rfl
                 refine take_ (i := 3) (N := some 56) (v := ?_) (a' := ?_) #[true, true, true, true, false, false, false] rfl rfl (by kernel_rfl) (fun _ _ _ h => h) (Or.inl ⟨by rfl, ?_⟩) hHeld ?_ ?_
                 rotate_left
                 ·rintro w' ⟨s0, s1, s2, s3, s4, s5⟩
                  go_simp
                  with_reducible rfl
                 rotate_left
                 ·simp only [Act.put, List.setIfInBounds_toArray, List.set_cons_zero, List.set_cons_succ, i64_w, i32_w]
                  rfl
                 refine take_ (i := 4) (N := some 57) (v := ?_) (a' := ?_) #[true, true, true, true, true, false, false] rfl rfl (by kernel_rfl) (fun _ _ _ h => h) (Or.inl ⟨by rfl, ?_⟩) hHeld ?_ ?_
                 rotate_left
                 ·rintro w' ⟨s0, s1, s2, s3, s4, s5⟩
                  go_simp
                  with_reducible rfl
                 rotate_left
                 ·simp only [Act.put, List.setIfInBounds_toArray, List.set_cons_zero, List.set_cons_succ, i64_w, i32_w]
                  rfl
                 refine one_ (i := 5) (N := some 58) #[true, true, true, true, true, true, false] rfl rfl (by kernel_rfl) (by decide) (fun K hK => ?_)
                 refine go1 Try.func22 #[.agg #[.bool ((rd_T64 t222 x36_2).f0), .bool ((rd_T64 t222 x36_2).f1), .slice A230_2 ((rd_T64 t222 x36_2).f2).length c230_2], .agg #[.bool false, .bool false, .slice none 0 0]] ?_
                 refine (lift_Same.calls kj18 ((rd_T64 t222 x36_2).f0) ((rd_T64 t222 x36_2).f1) _ _ ((rd_T64 t222 x36_2).f2) false false _ _ ([] : List Int) false _ ?side1 ?side2 ?side3 ?side4 A39.out).mono ?_
                 (case side1 => repeat (first | exact (by repeat (first | (with_reducible exact HR230_2.out) | (with_reducible refine Kd.C_alloc ?_ _) | (with_reducible refine Kd.C_drewN ?_ _) | (with_reducible refine Kd.C_drew ?_) | exact HR230_2.out)) | (with_reducible refine Kd.C_alloc ?_ _) | (with_reducible refine Kd.C_drewN ?_ _) | (with_reducible refine Kd.C_drew ?_)))
                 (case side2 => exact HC230_2.out)
                 (case side3 => exact Kd.C_nil _ _)
                 (case side4 => exact Nat.le_refl _)
                 rintro e w44 ⟨rfl, hb⟩
                 have HS3_ := (hb.cell (World.block_lt_of_cell? _ _ (hHeld.2.2.2.1))).trans (hHeld.2.2.2.1)
                 have HS4_ := (hb.cell (World.block_lt_of_cell? _ _ (hHeld.2.2.2.2.1))).trans (hHeld.2.2.2.2.1)
                 have HS5_ := (hb.cell (World.block_lt_of_cell? _ _ (hHeld.2.2.2.2.2))).trans (hHeld.2.2.2.2.2)
                 refine ⟨_, rfl, ?_⟩
                 replace HO_8 := Aside0.mk (Kd.S_below (kS HO_8) hb)
                 replace HO_34 := Aside0.mk (Kd.R_below (kR HO_34) hb)
                 replace HL230_2 := Aside0.mk (Kd.R_below (by (with_reducible repeat (first | apply Kd.R_alloc | apply Kd.R_drewN | apply Kd.R_drew)); exact HL230_2.out) hb)
                 replace BK226 := bkb BK226 hb
                 replace HR230_2 := Aside0.mk (Kd.C_below (by repeat (first | (with_reducible exact HR230_2.out) | (with_reducible refine Kd.C_alloc ?_ _) | (with_reducible refine Kd.C_drewN ?_ _) | (with_reducible refine Kd.C_drew ?_) | exact HR230_2.out)) hb)
                 replace HB := bst hb
                 (try clear hb)
                 (try clear hb2)
                 (try clear hk)
                 (try clear hi)
                 refine hK.out _ _ ⟨(blk_cell BK226.out 0).trans rfl, (blk_cell BK226.out 1).trans rfl, (blk_cell BK226.out 2).trans rfl, HS3_, HS4_, HS5_⟩ (fun hHeld => ?_)
                 clear hK K
                 refine nm (some 58) ?_
                 refine pure_ (i := 6) (N := some 59) (v := ?_) (a' := ?_) #[true, true, true, true, true, true, true] rfl rfl (by kernel_rfl) (fun _ _ _ h => h) (Or.inl ⟨by rfl, ?_⟩) ?_ ?_
                 rotate_left
                 ·intro w'
                  go_simp
                  with_reducible rfl
                 rotate_left
                 ·simp only [Act.put, List.setIfInBounds_toArray, List.set_cons_zero, List.set_cons_succ, i64_w, i32_w]
                  rfl
                 refine done_ (by kernel_rfl) ?_
                 try go_wp2
                 go_ret
                 exact ⟨by first | rfl | (simp [errW_none, errW_some] <;> rfl) | (simp [*, errW_none, errW_some] <;> rfl), by repeat (first | (with_reducible first | exact HB.out | apply below_alloc | apply pw_below_drewN | apply below_drew1 | refine below_set ?_ GE226.out) | exact HB.out)⟩
               ·rw [if_neg c38] at H
                exact absurd H (by simp)
              ·rw [if_neg c37] at H
               exact absurd H (by simp)
          ·rw [if_neg c18] at H
           exact absurd H (by simp)
         ·rw [if_neg c17] at H
          exact absurd H (by simp)
        ·rw [if_neg c16] at H
         have c16b0 : decide (x36_2 < (x5_1.length : Int)) = false := decide_eq_false c16
         clear c16
         obtain rfl := Option.some.inj H
         go_wp2
         go_ret
         exact ⟨by first | rfl | (simp [errW_none, errW_some] <;> rfl) | (simp [*, errW_none, errW_some] <;> rfl), by repeat (first | (with_reducible first | exact HB.out | apply below_alloc | apply pw_below_drewN | apply below_drew1) | exact HB.out)⟩
     ·rw [if_neg c12] at H
      have c12b0 : ((t222.length : Int) == (x5_1.length : Int)) = false := beq_eq_false_iff_ne.mpr c12
      have c12b1 : ((t222.length : Int) != (x5_1.length : Int)) = true := bne_iff_ne.mpr c12
      have c12b2 : (t222.length == x5_1.length) = false := by first | simpa using c12 | (simp at c12 ⊢; omega)
      obtain rfl := Option.some.inj H
      obtain ⟨Ao45, co45, eo45⟩ := Kd.R_slice HO_5.out
      subst eo45
      go_wp2_with (first | ((with_reducible refine gate_dst (N := 28) rfl ?_); refine gl (some 28) Try.func21 #[.slice Ao45 x5_1.length co45, .slice A1 l1.length c1] ?_; (with_reducible refine (lift_Up.calls k1 _ _ x5_1 _ _ l1 t222 _ ?side1 ?side2 ?side3 ?side4 A11.out).mono ?_); (case side1 => repeat (first | exact (Kd.R_reads' HO_5.out).2.2 | (with_reducible refine Kd.C_alloc ?_ _) | (with_reducible refine Kd.C_drewN ?_ _) | (with_reducible refine Kd.C_drew ?_))); (case side2 => exact (Kd.R_reads' HO_5.out).2.1); (case side3 => repeat (first | exact (Kd.C_below HR1.out HB.out) | (with_reducible refine Kd.C_alloc ?_ _) | (with_reducible refine Kd.C_drewN ?_ _) | (with_reducible refine Kd.C_drew ?_))); (case side4 => exact HC1.out); rintro e w46 ⟨v223, rfl, ho0, hb⟩; refine ⟨_, rfl, ?_⟩; have HO224 := Aside0.mk (Kd.S_lower (Kd.S_new' ho0 (Kd.R_lt (kR HO_5))) (below_size bel)); replace HO_5 := Aside0.mk (Kd.R_below (kR HO_5) hb); replace HB := bst hb; (try clear hb); (try clear hb2); (try clear hk); (try clear hi); (try clear ho0); obtain ⟨Ao47, co47, eo47⟩ := Kd.S_slice HO224.out; subst eo47))
      go_ret
      exact ⟨by first | rfl | (simp [errW_none, errW_some] <;> rfl) | (simp [*, errW_none, errW_some] <;> rfl), by repeat (first | (with_reducible first | exact HB.out | apply below_alloc | apply pw_below_drewN | apply below_drew1) | exact HB.out)⟩
 ·replace c4 := Bool.eq_false_iff.mpr c4
  subst c4
  have H1 : (some false) = some r := by rw [if_neg (show ¬ (false = true) by decide)] at H; exact H
  clear H
  have H := H1
  clear H1
  obtain rfl := Option.some.inj H
  go_enter Try.func5, Try.ntmps5
  go_wp2_with (first | ((with_reducible refine gate_dst (N := 12) rfl ?_); refine gl (some 12) Try.func20 #[] ?_; (with_reducible refine (maquettelaw23_awake.calls k  false _ A3.out).mono ?_); rintro e w48 ⟨rfl, hb⟩; refine ⟨_, rfl, ?_⟩; replace HB := bst hb; (try clear hb); (try clear hb2); (try clear hk); (try clear hi)))
  go_ret
  exact ⟨by first | rfl | (simp [errW_none, errW_some] <;> rfl) | (simp [*, errW_none, errW_some] <;> rfl), by repeat (first | (with_reducible first | exact HB.out | apply below_alloc | apply pw_below_drewN | apply below_drew1) | exact HB.out)⟩

end Go.Proofs.Ytkhbpjhlekldpaa.PLift
