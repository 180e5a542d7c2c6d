-- Written by wip/xprint.py of this work: the printer of the kit, with contracts of this work beside it, shortened.
import Derived.Scope
import Derived.Test.YthodilggomedgaaDoorShort
import Derived.Test.YthodilggomedgaaDoorPTbx0
import Derived.Test.YthodilggomedgaaDoorJ4
import Derived.Test.YthodilggomedgaaDoorPTbx15
namespace Go.Proofs.YthodilggomedgaaDoor.PTb
open Go.RowKit Go.Proofs.YthodilggomedgaaDoor.Short Go.Proofs.YthodilggomedgaaDoorW.PrintWords Go.Proofs.YthodilggomedgaaDoorW.PrintLast Go.Proofs.YthodilggomedgaaDoorW.PrintMore
attribute [local go_sem] max2_int min2_int max_two min_two max_three min_three max_four min_four   -- for this text's walks alone
set_option linter.unusedVariables false
set_option linter.unusedSimpArgs false

/-! ### token_Cut: function 9 -/
mutual
def token_Cut.l0 : Nat → ByteArray → List (S33) → Int → Option ((List (S33)) × Option Int)
 | 0, _, _, _ => none
 | k + 1, x0, x4, x5 => if x5 < (x0.size : Int) then (if 0 ≤ x5 then (if (bt x0 x5) = 32 then (token_Cut.j1 k x0 x4 x5 (bt x0 x5) (wrap64 (x5 + 1)) true) else (if (bt x0 x5) = 9 then (token_Cut.j1 k x0 x4 x5 (bt x0 x5) (wrap64 (x5 + 1)) true) else (token_Cut.j1 k x0 x4 x5 (bt x0 x5) (wrap64 (x5 + 1)) ((bt x0 x5) == 10)))) else (none)) else (if x4.length < 2513169434916 then (some ((x4 ++ [(⟨0, (⟨#[]⟩ : ByteArray), 0, (⟨0, 0⟩ : S31), (x0.size : Int)⟩ : S33)]), none)) else (none))
def token_Cut.j1 : Nat → ByteArray → List (S33) → Int → Int → Int → Bool → Option ((List (S33)) × Option Int)
 | 0, _, _, _, _, _, _ => none
 | k + 1, x0, x4, x5, x6, x7, x23 => if x23 = true then (token_Cut.l0 k x0 x4 x7) else (if x6 = 35 then (token_Cut.l1 k x0 x4 x7) else (if x6 = 123 then (if 0 ≤ x5 then (if x5 ≤ x7 then (if x7 ≤ (x0.size : Int) then (if x4.length < 2513169434916 then (token_Cut.l0 k x0 (x4 ++ [(⟨4, x0.extract (x5 : Int).toNat (x7 : Int).toNat, 0, (⟨0, 0⟩ : S31), x5⟩ : S33)]) x7) else (none)) else (none)) else (none)) else (none)) else (if x6 = 125 then (if 0 ≤ x5 then (if x5 ≤ x7 then (if x7 ≤ (x0.size : Int) then (if x4.length < 2513169434916 then (token_Cut.l0 k x0 (x4 ++ [(⟨4, x0.extract (x5 : Int).toNat (x7 : Int).toNat, 0, (⟨0, 0⟩ : S31), x5⟩ : S33)]) x7) else (none)) else (none)) else (none)) else (none)) else (if x6 = 59 then (if 0 ≤ x5 then (if x5 ≤ x7 then (if x7 ≤ (x0.size : Int) then (if x4.length < 2513169434916 then (token_Cut.l0 k x0 (x4 ++ [(⟨4, x0.extract (x5 : Int).toNat (x7 : Int).toNat, 0, (⟨0, 0⟩ : S31), x5⟩ : S33)]) x7) else (none)) else (none)) else (none)) else (none)) else (token_Cut.l2 k x0 x4 x5 x5)))))
def token_Cut.l1 : Nat → ByteArray → List (S33) → Int → Option ((List (S33)) × Option Int)
 | 0, _, _, _ => none
 | k + 1, x0, x4, x7 => if x7 < (x0.size : Int) then (if 0 ≤ x7 then (if (bt x0 x7) = 10 then (token_Cut.l0 k x0 x4 x7) else (token_Cut.l1 k x0 x4 (wrap64 (x7 + 1)))) else (none)) else (token_Cut.l0 k x0 x4 x7)
def token_Cut.j4 : Nat → ByteArray → List (S33) → Int → Int → Option ((List (S33)) × Option Int)
 | 0, _, _, _, _ => none
 | k + 1, x0, x4, x5, x7 => if 0 ≤ x5 then (if x5 ≤ x7 then (if x7 ≤ (x0.size : Int) then ((token_piece.f k (x0.extract (x5 : Int).toNat (x7 : Int).toNat)).bind fun bt145 => (if bt145.2.2.2.2.2.2 = true then (if x4.length < 2513169434916 then (token_Cut.l0 k x0 (x4 ++ [(⟨bt145.1, bt145.2.1, bt145.2.2.1, (⟨bt145.2.2.2.1, bt145.2.2.2.2.1⟩ : S31), x5⟩ : S33)]) x7) else (none)) else ((api_Wrap.f 1 x5).bind fun t156 => (some (([] : List (S33)), t156))))) else (none)) else (none)) else (none)
def token_Cut.l2 : Nat → ByteArray → List (S33) → Int → Int → Option ((List (S33)) × Option Int)
 | 0, _, _, _, _ => none
 | k + 1, x0, x4, x5, x7 => if x7 < (x0.size : Int) then (if 0 ≤ x7 then ((token_part.f (bt x0 x7)).bind fun t144 => (if t144 = true then (token_Cut.l2 k x0 x4 x5 (wrap64 (x7 + 1))) else (token_Cut.j4 k x0 x4 x5 x7))) else (none)) else (token_Cut.j4 k x0 x4 x5 x7)
end
def token_Cut.f (k : Nat) (a0 : ByteArray) : Option ((List (S33)) × Option Int) := if (a0.size : Int) > 65536 then ((api_Wrap.f 7 0).bind fun t131 => (some (([] : List (S33)), t131))) else (token_Cut.l0 k a0 ([] : List (S33)) 0)
theorem token_Cut.mono_l : ∀ k, (∀ y0 y1 y2, LeO (token_Cut.l0 k y0 y1 y2) (token_Cut.l0 (k + 1) y0 y1 y2)) ∧ (∀ y0 y1 y2 y3 y4 y5, LeO (token_Cut.j1 k y0 y1 y2 y3 y4 y5) (token_Cut.j1 (k + 1) y0 y1 y2 y3 y4 y5)) ∧ (∀ y0 y1 y2, LeO (token_Cut.l1 k y0 y1 y2) (token_Cut.l1 (k + 1) y0 y1 y2)) ∧ (∀ y0 y1 y2 y3, LeO (token_Cut.j4 k y0 y1 y2 y3) (token_Cut.j4 (k + 1) y0 y1 y2 y3)) ∧ (∀ y0 y1 y2 y3, LeO (token_Cut.l2 k y0 y1 y2 y3) (token_Cut.l2 (k + 1) y0 y1 y2 y3))
 | 0 => ⟨fun _ _ _ r h => by simp [token_Cut.l0] at h, fun _ _ _ _ _ _ r h => by simp [token_Cut.j1] at h, fun _ _ _ r h => by simp [token_Cut.l1] at h, fun _ _ _ _ r h => by simp [token_Cut.j4] at h, fun _ _ _ _ r h => by simp [token_Cut.l2] at h⟩
 | k + 1 => by
  obtain ⟨ih0, ih1, ih2, ih3, ih4⟩ := token_Cut.mono_l k
  refine ⟨?_, ?_, ?_, ?_, ?_⟩<;> intros <;> (first | unfold token_Cut.l0 | unfold token_Cut.j1 | unfold token_Cut.l1 | unfold token_Cut.j4 | unfold token_Cut.l2) <;> repeat' first
   | (with_reducible exact ih0 _ _ _)
   | (with_reducible exact ih1 _ _ _ _ _ _)
   | (with_reducible exact ih2 _ _ _)
   | (with_reducible exact ih3 _ _ _ _)
   | (with_reducible exact ih4 _ _ _ _)
   | (with_reducible exact token_piece.mono _ _)
   | (with_reducible exact LeO.refl _)
   | (with_reducible exact LeO.none _)
   | (with_reducible refine LeO.ite ?_ ?_)
   | (with_reducible refine LeO.bind ?_ (fun _ => ?_))
   | exact ih0 _ _ _
   | exact ih1 _ _ _ _ _ _
   | exact ih2 _ _ _
   | exact ih3 _ _ _ _
   | exact ih4 _ _ _ _
   | exact token_piece.mono _ _
   | exact LeO.none _
   | refine LeO.ite ?_ ?_
   | refine LeO.bind ?_ (fun _ => ?_)
theorem token_Cut.mono : ∀ a0 k, LeO (token_Cut.f k a0) (token_Cut.f (k + 1) a0) := by
 intro a0 k
 obtain ⟨ih0, ih1, ih2, ih3, ih4⟩ := token_Cut.mono_l k
 unfold token_Cut.f
 repeat' first
   | (with_reducible exact ih0 _ _ _)
   | (with_reducible exact ih1 _ _ _ _ _ _)
   | (with_reducible exact ih2 _ _ _)
   | (with_reducible exact ih3 _ _ _ _)
   | (with_reducible exact ih4 _ _ _ _)
   | (with_reducible exact token_piece.mono _ _)
   | (with_reducible exact LeO.refl _)
   | (with_reducible exact LeO.none _)
   | (with_reducible refine LeO.ite ?_ ?_)
   | (with_reducible refine LeO.bind ?_ (fun _ => ?_))
   | exact ih0 _ _ _
   | exact ih1 _ _ _ _ _ _
   | exact ih2 _ _ _
   | exact ih3 _ _ _ _
   | exact ih4 _ _ _ _
   | exact token_piece.mono _ _
   | exact LeO.none _
   | refine LeO.ite ?_ ?_
   | refine LeO.bind ?_ (fun _ => ?_)
set_option maxHeartbeats 8000000 in
set_option maxRecDepth 100000 in
theorem token_Cut.calls (k : Nat) (a0 : ByteArray) (r1 : List (S33)) (r2 : Option Int) (w : World) (h : token_Cut.f k a0 = some (r1, r2)) (hInv : Go.Proofs.YthodilggomedgaaDoor.Inv.Inv w) :
  Calls Tryd.prog 9 #[.string a0] w fun e w' => ∃ v0_ : Value, e = .returned (.tuple #[v0_, errW r2]) ∧ Kd.R k33 33 w' w.heap.size (fun _ => True) v0_ r1 ∧ Below w.heap.size w w' := by
 have hu33 := Tryd.underlying33
 have HB := Aside0.mk (Below.refl w.heap.size w)
 have H : (if (a0.size : Int) > 65536 then ((api_Wrap.f 7 0).bind fun t131 => (some (([] : List (S33)), t131))) else (token_Cut.l0 k a0 ([] : List (S33)) 0)) = some (r1, r2) := h
 clear h
 by_cases c2 : (a0.size : Int) > 65536
 ·rw [if_pos c2] at H
  have c2b0 : decide (65536 < (a0.size : Int)) = true := decide_eq_true c2
  have c2b1 : decide (65536 < a0.size) = true := decide_eq_true (by omega)
  clear c2
  replace H := Option.bind_eq_some_iff.mp H
  obtain ⟨t131, A30, H⟩ := H
  replace H : (some (([] : List (S33)), t131)) = some (r1, r2) := H
  have A3 := Aside0.mk A30
  clear A30
  simp only [Option.some.injEq, Prod.mk.injEq] at H
  obtain ⟨rfl, rfl⟩ := H
  go_enter Tryd.func9, Tryd.ntmps9
  go_wp2
  refine wp_scope_straight ?_
  go_wp2_with (first | ((with_reducible refine gate_dst (N := 13) rfl ?_); refine gl (some 13) Tryd.func14 #[.int .i64 7, .int .i64 0] ?_; (with_reducible refine (api_Wrap.calls 7 0 t131 _ A3.out).mono ?_); rintro e w4 ⟨rfl, hb⟩; refine ⟨_, rfl, ?_⟩; replace HB := bst hb; (try clear hb); (try clear hb2); (try clear hk); (try clear hi); (try simp only [errW_none, errW_some])))
  refine (show ∀ {Q : Exit → Act → World → Prop} {a : Act} {w : World}, Q .ret a w → Exit.noGoto Q .ret a w from fun h => h) ?_
  go_ret2
  exact ⟨_, by first | rfl | (simp [errW_none, errW_some] <;> rfl) | (simp [*, errW_none, errW_some] <;> rfl), by first | exact Kd.R_nil _ _ _ _ _ | exact Kd.N_nil _ _ _ _ _ | exact Kd.V_nil _ _ _ _ _ | exact Kd.Q_nil _ _ _ _ _ | exact Kd.S_nil _ _ _ _ _, by repeat (first | (with_reducible first | exact HB.out | apply below_alloc | apply pw_below_drewN | apply below_drew1) | exact HB.out)⟩
 ·rw [if_neg c2] at H
  have c2b0 : decide (65536 < (a0.size : Int)) = false := decide_eq_false c2
  have c2b1 : decide (65536 < a0.size) = false := decide_eq_false (by omega)
  clear c2
  have H' := Aside0.mk H
  clear H
  go_enter Tryd.func9, Tryd.ntmps9
  go_wp2
  refine wp_scope_straight ?_
  go_wp2
  refine wp_label ?_
  go_wp2
  go_loopg [4, 5] k (fun kq v4 v5 w' => ∃ (x4_1 : List (S33)) (x5_1 : Int), v5 = .int .i64 x5_1 ∧ Aside0 (token_Cut.l0 kq a0 x4_1 x5_1 = some (r1, r2)) ∧ Aside0 (kq ≤ k) ∧ Aside0 (Kd.R k33 33 w' w.heap.size (fun _ => True) v4 x4_1) ∧ Aside0 (Below w.heap.size w w'))
  case atStart => exact ⟨(([] : List (S33))), (0), (by first | rfl | (simp; done) | (simp [*]; done)), H', ⟨Nat.le_refl _⟩, ⟨by first | exact Kd.R_nil _ _ _ _ _ | exact Kd.N_nil _ _ _ _ _ | exact Kd.V_nil _ _ _ _ _ | exact Kd.Q_nil _ _ _ _ _ | exact Kd.S_nil _ _ _ _ _⟩, ⟨by repeat (first | (with_reducible first | exact HB.out | apply below_alloc | apply pw_below_drewN | apply below_drew1) | exact HB.out)⟩⟩
  case round =>
   clear H'
   try clear c1
   try clear c2
   try clear c2b0
   try clear c2b1
   try clear p2
   obtain ⟨x4_1, x5_1, rfl, HA, HK1, HO_4, HB⟩ := hrel
   cases gk with
   | zero => exact absurd HA.out (by simp [token_Cut.l0])
   | succ k1 =>
    have H := HA.out
    clear HA
    simp only [token_Cut.l0] at H
    by_cases c5 : x5_1 < (a0.size : Int)
    ·rw [if_pos c5] at H
     have c5b0 := decide_eq_true c5
     clear c5
     by_cases c6 : 0 ≤ x5_1
     ·rw [if_pos c6] at H
      have c6b0 := decide_eq_true c6
      clear c6
      have HC8 := Aside0.mk H
      clear H
      have p7 : 0 ≤ (x5_1 : Int) := of_decide_eq_true (by first | (with_reducible assumption) | assumption)
      have q7 : x5_1 < (a0.size : Int) := of_decide_eq_true (by first | (with_reducible assumption) | assumption)
      have hx7 := bt_at a0 x5_1
      replace p7 := eq_true p7
      replace q7 := eq_true q7
      go_upto_region 7 with (fail)
      go_cut [23] (fun v23 wc => ∃ (kq : Nat) (x23_7 : Bool), v23 = .bool x23_7 ∧ Aside0 (token_Cut.j1 kq a0 x4_1 x5_1 (bt a0 x5_1) (wrap64 (x5_1 + 1)) x23_7 = some (r1, r2)) ∧ Aside0 (kq ≤ k1) ∧ Aside0 (Kd.R k33 33 wc w.heap.size (fun _ => True) u4 x4_1) ∧ Aside0 (Below w.heap.size w wc))
      case first =>
       have H := HC8.out
       clear HC8
       by_cases c9 : (bt a0 x5_1) = 32
       ·rw [if_pos c9] at H
        have c9b0 : ((bt a0 x5_1) == 32) = true := beq_iff_eq.mpr c9
        have c9b1 : ((bt a0 x5_1) != 32) = false := bne_eq_false_iff_eq.mpr c9
        clear c9
        (first | rw [c9b0] | (simp only [i64_w, i32_w]; rw [c9b0]) | skip)
        have H' := Aside0.mk H
        clear H
        go_wp2
        go_meet
        case rel => exact ⟨_, (true), (by first | rfl | (simp; done) | (simp [*]; done)), H', ⟨by have := HK1.out; first | omega | exact Nat.le_refl _⟩, ⟨by (with_reducible repeat (first | apply Kd.R_alloc | apply Kd.R_drewN | apply Kd.R_drew)); exact HO_4.out⟩, ⟨by repeat (first | (with_reducible first | exact HB.out | apply below_alloc | apply pw_below_drewN | apply below_drew1) | exact HB.out)⟩⟩
       ·rw [if_neg c9] at H
        have c9b0 : ((bt a0 x5_1) == 32) = false := beq_eq_false_iff_ne.mpr c9
        have c9b1 : ((bt a0 x5_1) != 32) = true := bne_iff_ne.mpr c9
        (first | rw [c9b0] | (simp only [i64_w, i32_w]; rw [c9b0]) | skip)
        by_cases c10 : (bt a0 x5_1) = 9
        ·rw [if_pos c10] at H
         have c10b0 : ((bt a0 x5_1) == 9) = true := beq_iff_eq.mpr c10
         have c10b1 : ((bt a0 x5_1) != 9) = false := bne_eq_false_iff_eq.mpr c10
         clear c10
         have H' := Aside0.mk H
         clear H
         go_wp2
         go_meet
         case rel => exact ⟨_, (true), (by first | rfl | (simp; done) | (simp [*]; done)), H', ⟨by have := HK1.out; first | omega | exact Nat.le_refl _⟩, ⟨by (with_reducible repeat (first | apply Kd.R_alloc | apply Kd.R_drewN | apply Kd.R_drew)); exact HO_4.out⟩, ⟨by repeat (first | (with_reducible first | exact HB.out | apply below_alloc | apply pw_below_drewN | apply below_drew1) | exact HB.out)⟩⟩
        ·rw [if_neg c10] at H
         have c10b0 : ((bt a0 x5_1) == 9) = false := beq_eq_false_iff_ne.mpr c10
         have c10b1 : ((bt a0 x5_1) != 9) = true := bne_iff_ne.mpr c10
         have H' := Aside0.mk H
         clear H
         go_wp2
         go_meet
         case rel => exact ⟨_, (((bt a0 x5_1) == 10)), (by first | rfl | (simp; done) | (simp [*]; done)), H', ⟨by have := HK1.out; first | omega | exact Nat.le_refl _⟩, ⟨by (with_reducible repeat (first | apply Kd.R_alloc | apply Kd.R_drewN | apply Kd.R_drew)); exact HO_4.out⟩, ⟨by repeat (first | (with_reducible first | exact HB.out | apply below_alloc | apply pw_below_drewN | apply below_drew1) | exact HB.out)⟩⟩
      case rest =>
       clear HC8
       try clear c1
       try clear c2
       try clear c2b0
       try clear c2b1
       try clear p2 p2
       try clear c5
       try clear c5b0
       try clear c6
       try clear c6b0
       try clear p6
       try clear p7 p7
       try clear q7 q7
       try clear hx7
       try clear c9
       try clear c9b0
       try clear c9b1
       try clear c10
       try clear c10b0
       try clear c10b1
       obtain ⟨kq, x23_7, rfl, HA, HJ7, HO_4, HB⟩ := hcut
       cases kq with
       | zero => exact absurd HA.out (by simp [token_Cut.j1])
       | succ kj7 =>
        have H := HA.out
        clear HA
        simp only [token_Cut.j1] at H
        by_cases c11 : x23_7 = true
        ·subst c11
         have H1 : (token_Cut.l0 kj7 a0 x4_1 (wrap64 (x5_1 + 1))) = some (r1, r2) := by rw [if_pos rfl] at H; exact H
         clear H
         have H := H1
         clear H1
         have H' := Aside0.mk H
         clear H
         go_wp2
         go_roundg kj7
         case measure => have := HK1.out; have := HJ7.out; omega
         case rel => exact ⟨(x4_1), ((wrap64 (x5_1 + 1))), (by first | rfl | (simp; done) | (simp [*]; done)), H', ⟨by have := HK1.out; have := HJ7.out; omega⟩, ⟨by (with_reducible repeat (first | apply Kd.R_alloc | apply Kd.R_drewN | apply Kd.R_drew)); exact HO_4.out⟩, ⟨by repeat (first | (with_reducible first | exact HB.out | apply below_alloc | apply pw_below_drewN | apply below_drew1) | exact HB.out)⟩⟩
        ·replace c11 := Bool.eq_false_iff.mpr c11
         subst c11
         have H1 : (if (bt a0 x5_1) = 35 then (token_Cut.l1 kj7 a0 x4_1 (wrap64 (x5_1 + 1))) else (if (bt a0 x5_1) = 123 then (if 0 ≤ x5_1 then (if x5_1 ≤ (wrap64 (x5_1 + 1)) then (if (wrap64 (x5_1 + 1)) ≤ (a0.size : Int) then (if x4_1.length < 2513169434916 then (token_Cut.l0 kj7 a0 (x4_1 ++ [(⟨4, a0.extract (x5_1 : Int).toNat ((wrap64 (x5_1 + 1)) : Int).toNat, 0, (⟨0, 0⟩ : S31), x5_1⟩ : S33)]) (wrap64 (x5_1 + 1))) else (none)) else (none)) else (none)) else (none)) else (if (bt a0 x5_1) = 125 then (if 0 ≤ x5_1 then (if x5_1 ≤ (wrap64 (x5_1 + 1)) then (if (wrap64 (x5_1 + 1)) ≤ (a0.size : Int) then (if x4_1.length < 2513169434916 then (token_Cut.l0 kj7 a0 (x4_1 ++ [(⟨4, a0.extract (x5_1 : Int).toNat ((wrap64 (x5_1 + 1)) : Int).toNat, 0, (⟨0, 0⟩ : S31), x5_1⟩ : S33)]) (wrap64 (x5_1 + 1))) else (none)) else (none)) else (none)) else (none)) else (if (bt a0 x5_1) = 59 then (if 0 ≤ x5_1 then (if x5_1 ≤ (wrap64 (x5_1 + 1)) then (if (wrap64 (x5_1 + 1)) ≤ (a0.size : Int) then (if x4_1.length < 2513169434916 then (token_Cut.l0 kj7 a0 (x4_1 ++ [(⟨4, a0.extract (x5_1 : Int).toNat ((wrap64 (x5_1 + 1)) : Int).toNat, 0, (⟨0, 0⟩ : S31), x5_1⟩ : S33)]) (wrap64 (x5_1 + 1))) else (none)) else (none)) else (none)) else (none)) else (token_Cut.l2 kj7 a0 x4_1 x5_1 x5_1))))) = some (r1, r2) := by rw [if_neg (show ¬ (false = true) by decide)] at H; exact H
         clear H
         have H := H1
         clear H1
         by_cases c12 : (bt a0 x5_1) = 35
         ·rw [if_pos c12] at H
          have c12b0 : ((bt a0 x5_1) == 35) = true := beq_iff_eq.mpr c12
          have c12b1 : ((bt a0 x5_1) != 35) = false := bne_eq_false_iff_eq.mpr c12
          clear c12
          have H' := Aside0.mk H
          clear H
          go_wp2
          go_loopg [7] kj7 (fun kq v7 w' => ∃ (x7_3 : Int), v7 = .int .i64 x7_3 ∧ Aside0 (token_Cut.l1 kq a0 x4_1 x7_3 = some (r1, r2)) ∧ Aside0 (kq ≤ kj7) ∧ Aside0 (Kd.R k33 33 w' w.heap.size (fun _ => True) u4 x4_1) ∧ Aside0 (Below w.heap.size w w'))
          case atStart => exact ⟨((wrap64 (x5_1 + 1))), (by first | rfl | (simp; done) | (simp [*]; done)), H', ⟨Nat.le_refl _⟩, ⟨by (with_reducible repeat (first | apply Kd.R_alloc | apply Kd.R_drewN | apply Kd.R_drew)); exact HO_4.out⟩, ⟨by repeat (first | (with_reducible first | exact HB.out | apply below_alloc | apply pw_below_drewN | apply below_drew1) | exact HB.out)⟩⟩
          case round =>
           clear H'
           try clear c1
           try clear c2
           try clear c2b0
           try clear c2b1
           try clear p2 p2
           try clear c5
           try clear c5b0
           try clear c6
           try clear c6b0
           try clear p6 p6
           try clear p7 p7
           try clear q7 q7
           try clear hx7
           try clear c9
           try clear c9b0
           try clear c9b1
           try clear c10
           try clear c10b0
           try clear c10b1
           try clear c11
           try clear c12
           try clear c12b0
           try clear c12b1
           obtain ⟨x7_3, rfl, HA, HK3, HO_4, HB⟩ := hrel
           cases gk with
           | zero => exact absurd HA.out (by simp [token_Cut.l1])
           | succ k3 =>
            have H := HA.out
            clear HA
            simp only [token_Cut.l1] at H
            by_cases c13 : x7_3 < (a0.size : Int)
            ·rw [if_pos c13] at H
             have c13b0 := decide_eq_true c13
             clear c13
             by_cases c14 : 0 ≤ x7_3
             ·rw [if_pos c14] at H
              have c14b0 := decide_eq_true c14
              clear c14
              by_cases c16 : (bt a0 x7_3) = 10
              ·rw [if_pos c16] at H
               have c16b0 : ((bt a0 x7_3) == 10) = true := beq_iff_eq.mpr c16
               have c16b1 : ((bt a0 x7_3) != 10) = false := bne_eq_false_iff_eq.mpr c16
               clear c16
               have H' := Aside0.mk H
               clear H
               have p15 : 0 ≤ (x7_3 : Int) := of_decide_eq_true (by first | (with_reducible assumption) | assumption)
               have q15 : x7_3 < (a0.size : Int) := of_decide_eq_true (by first | (with_reducible assumption) | assumption)
               have hx15 := bt_at a0 x7_3
               replace p15 := eq_true p15
               replace q15 := eq_true q15
               go_wp2
               go_roundg k3
               case measure => have := HK1.out; have := HJ7.out; have := HK3.out; omega
               case rel => exact ⟨(x4_1), (x7_3), (by first | rfl | (simp; done) | (simp [*]; done)), H', ⟨by have := HK1.out; have := HJ7.out; have := HK3.out; omega⟩, ⟨by (with_reducible repeat (first | apply Kd.R_alloc | apply Kd.R_drewN | apply Kd.R_drew)); exact HO_4.out⟩, ⟨by repeat (first | (with_reducible first | exact HB.out | apply below_alloc | apply pw_below_drewN | apply below_drew1) | exact HB.out)⟩⟩
              ·rw [if_neg c16] at H
               have c16b0 : ((bt a0 x7_3) == 10) = false := beq_eq_false_iff_ne.mpr c16
               have c16b1 : ((bt a0 x7_3) != 10) = true := bne_iff_ne.mpr c16
               have H' := Aside0.mk H
               clear H
               have p15 : 0 ≤ (x7_3 : Int) := of_decide_eq_true (by first | (with_reducible assumption) | assumption)
               have q15 : x7_3 < (a0.size : Int) := of_decide_eq_true (by first | (with_reducible assumption) | assumption)
               have hx15 := bt_at a0 x7_3
               replace p15 := eq_true p15
               replace q15 := eq_true q15
               go_wp2
               go_roundg k3
               case measure => have := HK1.out; have := HJ7.out; have := HK3.out; omega
               case rel => exact ⟨(wrap64 (x7_3 + 1)), (by first | rfl | (simp; done) | (simp [*]; done)), H', ⟨by have := HK1.out; have := HJ7.out; have := HK3.out; omega⟩, ⟨by (with_reducible repeat (first | apply Kd.R_alloc | apply Kd.R_drewN | apply Kd.R_drew)); exact HO_4.out⟩, ⟨by repeat (first | (with_reducible first | exact HB.out | apply below_alloc | apply pw_below_drewN | apply below_drew1) | exact HB.out)⟩⟩
             ·rw [if_neg c14] at H
              exact absurd H (by simp)
            ·rw [if_neg c13] at H
             have c13b0 := decide_eq_false c13
             clear c13
             have H' := Aside0.mk H
             clear H
             go_wp2
             go_roundg k3
             case measure => have := HK1.out; have := HJ7.out; have := HK3.out; omega
             case rel => exact ⟨(x4_1), (x7_3), (by first | rfl | (simp; done) | (simp [*]; done)), H', ⟨by have := HK1.out; have := HJ7.out; have := HK3.out; omega⟩, ⟨by (with_reducible repeat (first | apply Kd.R_alloc | apply Kd.R_drewN | apply Kd.R_drew)); exact HO_4.out⟩, ⟨by repeat (first | (with_reducible first | exact HB.out | apply below_alloc | apply pw_below_drewN | apply below_drew1) | exact HB.out)⟩⟩
         ·rw [if_neg c12] at H
          have c12b0 : ((bt a0 x5_1) == 35) = false := beq_eq_false_iff_ne.mpr c12
          have c12b1 : ((bt a0 x5_1) != 35) = true := bne_iff_ne.mpr c12
          by_cases c17 : (bt a0 x5_1) = 123
          ·rw [if_pos c17] at H
           have c17b0 : ((bt a0 x5_1) == 123) = true := beq_iff_eq.mpr c17
           have c17b1 : ((bt a0 x5_1) != 123) = false := bne_eq_false_iff_eq.mpr c17
           clear c17
           by_cases c18 : 0 ≤ x5_1
           ·rw [if_pos c18] at H
            have c18b0 := eq_true c18
            have c18b1 := decide_eq_true c18
            clear c18
            by_cases c19 : x5_1 ≤ (wrap64 (x5_1 + 1))
            ·rw [if_pos c19] at H
             have c19b0 := eq_true c19
             have c19b1 := decide_eq_true c19
             by_cases c20 : (wrap64 (x5_1 + 1)) ≤ (a0.size : Int)
             ·rw [if_pos c20] at H
              have c20b0 := eq_true c20
              have c20b1 := decide_eq_true c20
              by_cases c21 : x4_1.length < 2513169434916
              ·rw [if_pos c21] at H
               have LMc21 := Aside0.mk c21
               clear c21
               obtain ⟨y135, hy135⟩ : ∃ y_ : List (S33), y_ = (x4_1 ++ [(⟨4, a0.extract (x5_1 : Int).toNat ((wrap64 (x5_1 + 1)) : Int).toNat, 0, (⟨0, 0⟩ : S31), x5_1⟩ : S33)]) := ⟨_, rfl⟩
               replace H : (token_Cut.l0 kj7 a0 y135 (wrap64 (x5_1 + 1))) = some (r1, r2) := by first | (rw [hy135]; with_reducible exact H) | (have H2_ := (Option.bind_some _ _).symm.trans H; rw [hy135]; with_reducible exact H2_) | (have H2_ := (Option.bind_some _ _).symm.trans H; with_reducible exact H2_) | with_reducible exact H | (rw [hy135]; exact H) | exact H
               have Ny135 := Aside0.mk hy135
               clear hy135
               have H' := Aside0.mk H
               clear H
               go_wp2_with (first | ((with_reducible refine gate_builtin (b := .append) (xs := #[.tmp 62, .tmp 69]) rfl ?_); at_builtin; refine Kd.R_append k33 (w0 := w) w.heap.size rfl (.tmp 62) (.tmp 69) 23 33 (.agg #[(.int .i64 0), (.string ⟨#[]⟩), (.int .i64 0), (.int .u32 0), (.int .i64 0), (.int .i64 0)]) 56 rfl Tryd.underlying23 info33 rfl (by decide) (by omega) u4 x4_1 (⟨4, a0.extract (x5_1 : Int).toNat ((wrap64 (x5_1 + 1)) : Int).toNat, 0, (⟨0, 0⟩ : S31), x5_1⟩ : S33) [.int .i64 4, .string (a0.extract (x5_1 : Int).toNat ((wrap64 (x5_1 + 1)) : Int).toNat), .int .i64 0, .int .u32 0, .int .i64 0, .int .i64 x5_1] (fun _ => True) (fun _ => False) rfl rfl ?aP (fun _ hk => hk.elim) ?aF ?aO ?aB ?aS ?aL ?_; (case aP => exact k33_mkM _ _ _ (⟨4, a0.extract (x5_1 : Int).toNat ((wrap64 (x5_1 + 1)) : Int).toNat, 0, (⟨0, 0⟩ : S31), x5_1⟩ : S33)); (case aB => exact bel); (case aF => exact (fun _ _ => trivial)); (case aO => exact (kR HO_4)); (case aS => exact (below_size bel)); (case aL => have := LMc21.out; omega); intro v136 w22 ho hb hg hat; rw [← Ny135.out] at ho; have HO137 := Aside0.mk ho; replace HB := Aside0.mk (hb); clear HO_4; clear ho hb hg hat))
               go_roundg kj7
               case measure => have := HK1.out; have := HJ7.out; omega
               case rel => exact ⟨(y135), ((wrap64 (x5_1 + 1))), (by first | rfl | (simp; done) | (simp [*]; done)), H', ⟨by have := HK1.out; have := HJ7.out; omega⟩, ⟨by (with_reducible repeat (first | apply Kd.R_alloc | apply Kd.R_drewN | apply Kd.R_drew)); exact HO137.out⟩, ⟨by repeat (first | (with_reducible first | exact HB.out | apply below_alloc | apply pw_below_drewN | apply below_drew1) | exact HB.out)⟩⟩
              ·rw [if_neg c21] at H
               exact absurd H (by simp)
             ·rw [if_neg c20] at H
              exact absurd H (by simp)
            ·rw [if_neg c19] at H
             exact absurd H (by simp)
           ·rw [if_neg c18] at H
            exact absurd H (by simp)
          ·rw [if_neg c17] at H
           have c17b0 : ((bt a0 x5_1) == 123) = false := beq_eq_false_iff_ne.mpr c17
           have c17b1 : ((bt a0 x5_1) != 123) = true := bne_iff_ne.mpr c17
           by_cases c23 : (bt a0 x5_1) = 125
           ·rw [if_pos c23] at H
            have c23b0 : ((bt a0 x5_1) == 125) = true := beq_iff_eq.mpr c23
            have c23b1 : ((bt a0 x5_1) != 125) = false := bne_eq_false_iff_eq.mpr c23
            clear c23
            by_cases c24 : 0 ≤ x5_1
            ·rw [if_pos c24] at H
             have c24b0 := eq_true c24
             have c24b1 := decide_eq_true c24
             clear c24
             by_cases c25 : x5_1 ≤ (wrap64 (x5_1 + 1))
             ·rw [if_pos c25] at H
              have c25b0 := eq_true c25
              have c25b1 := decide_eq_true c25
              by_cases c26 : (wrap64 (x5_1 + 1)) ≤ (a0.size : Int)
              ·rw [if_pos c26] at H
               have c26b0 := eq_true c26
               have c26b1 := decide_eq_true c26
               by_cases c27 : x4_1.length < 2513169434916
               ·rw [if_pos c27] at H
                have LMc27 := Aside0.mk c27
                clear c27
                obtain ⟨y138, hy138⟩ : ∃ y_ : List (S33), y_ = (x4_1 ++ [(⟨4, a0.extract (x5_1 : Int).toNat ((wrap64 (x5_1 + 1)) : Int).toNat, 0, (⟨0, 0⟩ : S31), x5_1⟩ : S33)]) := ⟨_, rfl⟩
                replace H : (token_Cut.l0 kj7 a0 y138 (wrap64 (x5_1 + 1))) = some (r1, r2) := by first | (rw [hy138]; with_reducible exact H) | (have H2_ := (Option.bind_some _ _).symm.trans H; rw [hy138]; with_reducible exact H2_) | (have H2_ := (Option.bind_some _ _).symm.trans H; with_reducible exact H2_) | with_reducible exact H | (rw [hy138]; exact H) | exact H
                have Ny138 := Aside0.mk hy138
                clear hy138
                have H' := Aside0.mk H
                clear H
                go_wp2_with (first | ((with_reducible refine gate_builtin (b := .append) (xs := #[.tmp 62, .tmp 69]) rfl ?_); at_builtin; refine Kd.R_append k33 (w0 := w) w.heap.size rfl (.tmp 62) (.tmp 69) 23 33 (.agg #[(.int .i64 0), (.string ⟨#[]⟩), (.int .i64 0), (.int .u32 0), (.int .i64 0), (.int .i64 0)]) 56 rfl Tryd.underlying23 info33 rfl (by decide) (by omega) u4 x4_1 (⟨4, a0.extract (x5_1 : Int).toNat ((wrap64 (x5_1 + 1)) : Int).toNat, 0, (⟨0, 0⟩ : S31), x5_1⟩ : S33) [.int .i64 4, .string (a0.extract (x5_1 : Int).toNat ((wrap64 (x5_1 + 1)) : Int).toNat), .int .i64 0, .int .u32 0, .int .i64 0, .int .i64 x5_1] (fun _ => True) (fun _ => False) rfl rfl ?aP (fun _ hk => hk.elim) ?aF ?aO ?aB ?aS ?aL ?_; (case aP => exact k33_mkM _ _ _ (⟨4, a0.extract (x5_1 : Int).toNat ((wrap64 (x5_1 + 1)) : Int).toNat, 0, (⟨0, 0⟩ : S31), x5_1⟩ : S33)); (case aB => exact bel); (case aF => exact (fun _ _ => trivial)); (case aO => exact (kR HO_4)); (case aS => exact (below_size bel)); (case aL => have := LMc27.out; omega); intro v139 w28 ho hb hg hat; rw [← Ny138.out] at ho; have HO140 := Aside0.mk ho; replace HB := Aside0.mk (hb); clear HO_4; clear ho hb hg hat))
                go_roundg kj7
                case measure => have := HK1.out; have := HJ7.out; omega
                case rel => exact ⟨(y138), ((wrap64 (x5_1 + 1))), (by first | rfl | (simp; done) | (simp [*]; done)), H', ⟨by have := HK1.out; have := HJ7.out; omega⟩, ⟨by (with_reducible repeat (first | apply Kd.R_alloc | apply Kd.R_drewN | apply Kd.R_drew)); exact HO140.out⟩, ⟨by repeat (first | (with_reducible first | exact HB.out | apply below_alloc | apply pw_below_drewN | apply below_drew1) | exact HB.out)⟩⟩
               ·rw [if_neg c27] at H
                exact absurd H (by simp)
              ·rw [if_neg c26] at H
               exact absurd H (by simp)
             ·rw [if_neg c25] at H
              exact absurd H (by simp)
            ·rw [if_neg c24] at H
             exact absurd H (by simp)
           ·rw [if_neg c23] at H
            have c23b0 : ((bt a0 x5_1) == 125) = false := beq_eq_false_iff_ne.mpr c23
            have c23b1 : ((bt a0 x5_1) != 125) = true := bne_iff_ne.mpr c23
            by_cases c29 : (bt a0 x5_1) = 59
            ·rw [if_pos c29] at H
             have c29b0 : ((bt a0 x5_1) == 59) = true := beq_iff_eq.mpr c29
             have c29b1 : ((bt a0 x5_1) != 59) = false := bne_eq_false_iff_eq.mpr c29
             clear c29
             by_cases c30 : 0 ≤ x5_1
             ·rw [if_pos c30] at H
              have c30b0 := eq_true c30
              have c30b1 := decide_eq_true c30
              clear c30
              by_cases c31 : x5_1 ≤ (wrap64 (x5_1 + 1))
              ·rw [if_pos c31] at H
               have c31b0 := eq_true c31
               have c31b1 := decide_eq_true c31
               by_cases c32 : (wrap64 (x5_1 + 1)) ≤ (a0.size : Int)
               ·rw [if_pos c32] at H
                have c32b0 := eq_true c32
                have c32b1 := decide_eq_true c32
                by_cases c33 : x4_1.length < 2513169434916
                ·rw [if_pos c33] at H
                 have LMc33 := Aside0.mk c33
                 clear c33
                 obtain ⟨y141, hy141⟩ : ∃ y_ : List (S33), y_ = (x4_1 ++ [(⟨4, a0.extract (x5_1 : Int).toNat ((wrap64 (x5_1 + 1)) : Int).toNat, 0, (⟨0, 0⟩ : S31), x5_1⟩ : S33)]) := ⟨_, rfl⟩
                 replace H : (token_Cut.l0 kj7 a0 y141 (wrap64 (x5_1 + 1))) = some (r1, r2) := by first | (rw [hy141]; with_reducible exact H) | (have H2_ := (Option.bind_some _ _).symm.trans H; rw [hy141]; with_reducible exact H2_) | (have H2_ := (Option.bind_some _ _).symm.trans H; with_reducible exact H2_) | with_reducible exact H | (rw [hy141]; exact H) | exact H
                 have Ny141 := Aside0.mk hy141
                 clear hy141
                 have H' := Aside0.mk H
                 clear H
                 go_wp2_with (first | ((with_reducible refine gate_builtin (b := .append) (xs := #[.tmp 62, .tmp 69]) rfl ?_); at_builtin; refine Kd.R_append k33 (w0 := w) w.heap.size rfl (.tmp 62) (.tmp 69) 23 33 (.agg #[(.int .i64 0), (.string ⟨#[]⟩), (.int .i64 0), (.int .u32 0), (.int .i64 0), (.int .i64 0)]) 56 rfl Tryd.underlying23 info33 rfl (by decide) (by omega) u4 x4_1 (⟨4, a0.extract (x5_1 : Int).toNat ((wrap64 (x5_1 + 1)) : Int).toNat, 0, (⟨0, 0⟩ : S31), x5_1⟩ : S33) [.int .i64 4, .string (a0.extract (x5_1 : Int).toNat ((wrap64 (x5_1 + 1)) : Int).toNat), .int .i64 0, .int .u32 0, .int .i64 0, .int .i64 x5_1] (fun _ => True) (fun _ => False) rfl rfl ?aP (fun _ hk => hk.elim) ?aF ?aO ?aB ?aS ?aL ?_; (case aP => exact k33_mkM _ _ _ (⟨4, a0.extract (x5_1 : Int).toNat ((wrap64 (x5_1 + 1)) : Int).toNat, 0, (⟨0, 0⟩ : S31), x5_1⟩ : S33)); (case aB => exact bel); (case aF => exact (fun _ _ => trivial)); (case aO => exact (kR HO_4)); (case aS => exact (below_size bel)); (case aL => have := LMc33.out; omega); intro v142 w34 ho hb hg hat; rw [← Ny141.out] at ho; have HO143 := Aside0.mk ho; replace HB := Aside0.mk (hb); clear HO_4; clear ho hb hg hat))
                 go_roundg kj7
                 case measure => have := HK1.out; have := HJ7.out; omega
                 case rel => exact ⟨(y141), ((wrap64 (x5_1 + 1))), (by first | rfl | (simp; done) | (simp [*]; done)), H', ⟨by have := HK1.out; have := HJ7.out; omega⟩, ⟨by (with_reducible repeat (first | apply Kd.R_alloc | apply Kd.R_drewN | apply Kd.R_drew)); exact HO143.out⟩, ⟨by repeat (first | (with_reducible first | exact HB.out | apply below_alloc | apply pw_below_drewN | apply below_drew1) | exact HB.out)⟩⟩
                ·rw [if_neg c33] at H
                 exact absurd H (by simp)
               ·rw [if_neg c32] at H
                exact absurd H (by simp)
              ·rw [if_neg c31] at H
               exact absurd H (by simp)
             ·rw [if_neg c30] at H
              exact absurd H (by simp)
            ·rw [if_neg c29] at H
             have c29b0 : ((bt a0 x5_1) == 59) = false := beq_eq_false_iff_ne.mpr c29
             have c29b1 : ((bt a0 x5_1) != 59) = true := bne_iff_ne.mpr c29
             have HC35 := Aside0.mk H
             clear H
             go_upto_block 5 with (fail)
             go_cut [7] (fun v7 wc => ∃ (kq : Nat) (x7_34 : Int), v7 = .int .i64 x7_34 ∧ Aside0 (token_Cut.j4 kq a0 x4_1 x5_1 x7_34 = some (r1, r2)) ∧ Aside0 (kq ≤ kj7) ∧ Aside0 (Kd.R k33 33 wc w.heap.size (fun _ => True) u4 x4_1) ∧ Aside0 (Below w.heap.size w wc))
             case first =>
              have H := HC35.out
              clear HC35
              have H' := Aside0.mk H
              clear H
              go_wp2
              go_loopg [7] kj7 (fun kq v7 w' => ∃ (x7_3 : Int), v7 = .int .i64 x7_3 ∧ Aside0 (token_Cut.l2 kq a0 x4_1 x5_1 x7_3 = some (r1, r2)) ∧ Aside0 (kq ≤ kj7) ∧ Aside0 (Kd.R k33 33 w' w.heap.size (fun _ => True) u4 x4_1) ∧ Aside0 (Below w.heap.size w w'))
              case atStart => exact ⟨(x5_1), (by first | rfl | (simp; done) | (simp [*]; done)), H', ⟨Nat.le_refl _⟩, ⟨by (with_reducible repeat (first | apply Kd.R_alloc | apply Kd.R_drewN | apply Kd.R_drew)); exact HO_4.out⟩, ⟨by repeat (first | (with_reducible first | exact HB.out | apply below_alloc | apply pw_below_drewN | apply below_drew1) | exact HB.out)⟩⟩
              case round =>
               clear H'
               try clear c1
               try clear p1
               try clear q1
               try clear hx1
               try clear c2
               try clear c2b0
               try clear c2b1
               try clear p2 p2
               try clear c3
               try clear c5
               try clear c5b0
               try clear c6
               try clear c6b0
               try clear p6 p6
               try clear p7 p7
               try clear q7 q7
               try clear hx7
               try clear c9
               try clear c9b0
               try clear c9b1
               try clear c10
               try clear c10b0
               try clear c10b1
               try clear c11
               try clear c12
               try clear c12b0
               try clear c12b1
               try clear c13
               try clear c13b0
               try clear c14
               try clear c14b0
               try clear p15 p15
               try clear q15 q15
               try clear hx15
               try clear c16
               try clear c16b0
               try clear c16b1
               try clear c17
               try clear c17b0
               try clear c17b1
               try clear c18
               try clear c18b0
               try clear c18b1
               try clear c19
               try clear c19b0
               try clear c19b1
               try clear c20
               try clear c20b0
               try clear c20b1
               try clear c21
               try clear c23
               try clear c23b0
               try clear c23b1
               try clear c24
               try clear c24b0
               try clear c24b1
               try clear c25
               try clear c25b0
               try clear c25b1
               try clear c26
               try clear c26b0
               try clear c26b1
               try clear c27
               try clear c29
               try clear c29b0
               try clear c29b1
               try clear c30
               try clear c30b0
               try clear c30b1
               try clear c31
               try clear c31b0
               try clear c31b1
               try clear c32
               try clear c32b0
               try clear c32b1
               try clear c33
               obtain ⟨x7_3, rfl, HA, HK3, HO_4, HB⟩ := hrel
               cases gk with
               | zero => exact absurd HA.out (by simp [token_Cut.l2])
               | succ k3 =>
                have H := HA.out
                clear HA
                simp only [token_Cut.l2] at H
                by_cases c36 : x7_3 < (a0.size : Int)
                ·rw [if_pos c36] at H
                 have c36b0 := decide_eq_true c36
                 clear c36
                 (first | rw [c36b0] | (simp only [i64_w, i32_w]; rw [c36b0]) | skip)
                 by_cases c37 : 0 ≤ x7_3
                 ·rw [if_pos c37] at H
                  have c37b0 := decide_eq_true c37
                  clear c37
                  replace H := Option.bind_eq_some_iff.mp H
                  obtain ⟨t144, A390, H⟩ := H
                  replace H : (if t144 = true then (token_Cut.l2 k3 a0 x4_1 x5_1 (wrap64 (x7_3 + 1))) else (token_Cut.j4 k3 a0 x4_1 x5_1 x7_3)) = some (r1, r2) := H
                  have A39 := Aside0.mk A390
                  clear A390
                  by_cases c40 : t144 = true
                  ·subst c40
                   have H1 : (token_Cut.l2 k3 a0 x4_1 x5_1 (wrap64 (x7_3 + 1))) = some (r1, r2) := by rw [if_pos rfl] at H; exact H
                   clear H
                   have H := H1
                   clear H1
                   have H' := Aside0.mk H
                   clear H
                   have p38 : 0 ≤ (x7_3 : Int) := of_decide_eq_true (by first | (with_reducible assumption) | assumption)
                   have q38 : x7_3 < (a0.size : Int) := of_decide_eq_true (by first | (with_reducible assumption) | assumption)
                   have hx38 := bt_at a0 x7_3
                   replace p38 := eq_true p38
                   replace q38 := eq_true q38
                   go_wp2_with (first | (go_at_call 15; (with_reducible refine (token_part.calls (bt a0 x7_3) true _ A39.out).mono ?_); rintro e w' ⟨rfl, ⟨nd, rfl⟩⟩))
                   go_roundg k3
                   case measure => have := HK1.out; have := HJ7.out; have := HK3.out; omega
                   case rel => exact ⟨(wrap64 (x7_3 + 1)), (by first | rfl | (simp; done) | (simp [*]; done)), H', ⟨by have := HK1.out; have := HJ7.out; have := HK3.out; omega⟩, ⟨by (with_reducible repeat (first | apply Kd.R_alloc | apply Kd.R_drewN | apply Kd.R_drew)); exact HO_4.out⟩, ⟨by repeat (first | (with_reducible first | exact HB.out | apply below_alloc | apply pw_below_drewN | apply below_drew1) | exact HB.out)⟩⟩
                  ·replace c40 := Bool.eq_false_iff.mpr c40
                   subst c40
                   have H1 : (token_Cut.j4 k3 a0 x4_1 x5_1 x7_3) = some (r1, r2) := by rw [if_neg (show ¬ (false = true) by decide)] at H; exact H
                   clear H
                   have H := H1
                   clear H1
                   have H' := Aside0.mk H
                   clear H
                   have p38 : 0 ≤ (x7_3 : Int) := of_decide_eq_true (by first | (with_reducible assumption) | assumption)
                   have q38 : x7_3 < (a0.size : Int) := of_decide_eq_true (by first | (with_reducible assumption) | assumption)
                   have hx38 := bt_at a0 x7_3
                   replace p38 := eq_true p38
                   replace q38 := eq_true q38
                   go_wp2_with (first | (go_at_call 15; (with_reducible refine (token_part.calls (bt a0 x7_3) false _ A39.out).mono ?_); rintro e w' ⟨rfl, ⟨nd, rfl⟩⟩))
                   go_meet
                   case rel => exact ⟨_, (x7_3), (by first | rfl | (simp; done) | (simp [*]; done)), H', ⟨by have := HK1.out; have := HJ7.out; have := HK3.out; first | omega | exact Nat.le_refl _⟩, ⟨by (with_reducible repeat (first | apply Kd.R_alloc | apply Kd.R_drewN | apply Kd.R_drew)); exact HO_4.out⟩, ⟨by repeat (first | (with_reducible first | exact HB.out | apply below_alloc | apply pw_below_drewN | apply below_drew1) | exact HB.out)⟩⟩
                 ·rw [if_neg c37] at H
                  exact absurd H (by simp)
                ·rw [if_neg c36] at H
                 have c36b0 := decide_eq_false c36
                 clear c36
                 (first | rw [c36b0] | (simp only [i64_w, i32_w]; rw [c36b0]) | skip)
                 have H' := Aside0.mk H
                 clear H
                 go_wp2
                 go_meet
                 case rel => exact ⟨_, (x7_3), (by first | rfl | (simp; done) | (simp [*]; done)), H', ⟨by have := HK1.out; have := HJ7.out; have := HK3.out; first | omega | exact Nat.le_refl _⟩, ⟨by (with_reducible repeat (first | apply Kd.R_alloc | apply Kd.R_drewN | apply Kd.R_drew)); exact HO_4.out⟩, ⟨by repeat (first | (with_reducible first | exact HB.out | apply below_alloc | apply pw_below_drewN | apply below_drew1) | exact HB.out)⟩⟩
             case rest =>
              clear HC35
              try clear c1
              try clear p1 p1
              try clear q1 q1
              try clear hx1
              try clear c2
              try clear c2b0
              try clear c2b1
              try clear p2 p2
              try clear c3
              try clear p3
              try clear q3
              try clear hx3
              try clear c4
              try clear c5
              try clear c5b0
              try clear c6
              try clear c6b0
              try clear p6 p6
              try clear p7 p7
              try clear q7 q7
              try clear hx7
              try clear c9
              try clear c9b0
              try clear c9b1
              try clear c10
              try clear c10b0
              try clear c10b1
              try clear c11
              try clear c12
              try clear c12b0
              try clear c12b1
              try clear c13
              try clear c13b0
              try clear c14
              try clear c14b0
              try clear p15 p15
              try clear q15 q15
              try clear hx15
              try clear c16
              try clear c16b0
              try clear c16b1
              try clear c17
              try clear c17b0
              try clear c17b1
              try clear c18
              try clear c18b0
              try clear c18b1
              try clear c19
              try clear c19b0
              try clear c19b1
              try clear c20
              try clear c20b0
              try clear c20b1
              try clear c21
              try clear c23
              try clear c23b0
              try clear c23b1
              try clear c24
              try clear c24b0
              try clear c24b1
              try clear c25
              try clear c25b0
              try clear c25b1
              try clear c26
              try clear c26b0
              try clear c26b1
              try clear c27
              try clear c29
              try clear c29b0
              try clear c29b1
              try clear c30
              try clear c30b0
              try clear c30b1
              try clear c31
              try clear c31b0
              try clear c31b1
              try clear c32
              try clear c32b0
              try clear c32b1
              try clear c33
              try clear c36
              try clear c36b0
              try clear c37
              try clear c37b0
              try clear p38 p38
              try clear q38 q38
              try clear hx38
              try clear c40
              obtain ⟨kq, x7_34, rfl, HA, HJ34, HO_4, HB⟩ := hcut
              cases kq with
              | zero => exact absurd HA.out (by simp [token_Cut.j4])
              | succ kj34 =>
               have H := HA.out
               clear HA
               simp only [token_Cut.j4] at H
               by_cases c41 : 0 ≤ x5_1
               ·rw [if_pos c41] at H
                have c41b0 := eq_true c41
                have c41b1 := decide_eq_true c41
                clear c41
                by_cases c42 : x5_1 ≤ x7_34
                ·rw [if_pos c42] at H
                 have c42b0 := eq_true c42
                 have c42b1 := decide_eq_true c42
                 clear c42
                 by_cases c43 : x7_34 ≤ (a0.size : Int)
                 ·rw [if_pos c43] at H
                  have c43b0 := eq_true c43
                  have c43b1 := decide_eq_true c43
                  clear c43
                  replace H := Option.bind_eq_some_iff.mp H
                  obtain ⟨⟨t145, t146, t147, t148, t149, t150, t151⟩, A440, H⟩ := H
                  replace H : (if t151 = true then (if x4_1.length < 2513169434916 then (token_Cut.l0 kj34 a0 (x4_1 ++ [(⟨t145, t146, t147, (⟨t148, t149⟩ : S31), x5_1⟩ : S33)]) x7_34) else (none)) else ((api_Wrap.f 1 x5_1).bind fun t156 => (some (([] : List (S33)), t156)))) = some (r1, r2) := H
                  have A44 := Aside0.mk A440
                  clear A440
                  by_cases c45 : t151 = true
                  ·subst c45
                   have H1 : (if x4_1.length < 2513169434916 then (token_Cut.l0 kj34 a0 (x4_1 ++ [(⟨t145, t146, t147, (⟨t148, t149⟩ : S31), x5_1⟩ : S33)]) x7_34) else (none)) = some (r1, r2) := by rw [if_pos rfl] at H; exact H
                   clear H
                   have H := H1
                   clear H1
                   by_cases c46 : x4_1.length < 2513169434916
                   ·rw [if_pos c46] at H
                    have LMc46 := Aside0.mk c46
                    clear c46
                    obtain ⟨y153, hy153⟩ : ∃ y_ : List (S33), y_ = (x4_1 ++ [(⟨t145, t146, t147, (⟨t148, t149⟩ : S31), x5_1⟩ : S33)]) := ⟨_, rfl⟩
                    replace H : (token_Cut.l0 kj34 a0 y153 x7_34) = some (r1, r2) := by first | (rw [hy153]; with_reducible exact H) | (have H2_ := (Option.bind_some _ _).symm.trans H; rw [hy153]; with_reducible exact H2_) | (have H2_ := (Option.bind_some _ _).symm.trans H; with_reducible exact H2_) | with_reducible exact H | (rw [hy153]; exact H) | exact H
                    have Ny153 := Aside0.mk hy153
                    clear hy153
                    have H' := Aside0.mk H
                    clear H
                    go_upto_region 23 with (first | ((with_reducible refine gate_dst (N := 90) rfl ?_); refine gl (some 90) Tryd.func16 #[.string (a0.extract (x5_1 : Int).toNat (x7_34 : Int).toNat)] ?_; (with_reducible refine (token_piece.calls kj34 (a0.extract (x5_1 : Int).toNat (x7_34 : Int).toNat) t145 t146 t147 t148 t149 t150 true _ A44.out (Go.Proofs.YthodilggomedgaaDoor.Inv.ivb hInv)).mono ?_); rintro e w47 ⟨rfl, hb⟩; refine ⟨_, rfl, ?_⟩; replace HO_4 := Aside0.mk (Kd.R_below (kR HO_4) hb); replace HB := bst hb; (try clear hb); (try clear hb2); (try clear hk); (try clear hi)) | ((with_reducible refine gate_dst (N := 8) rfl ?_); refine bx 8 (cs := #[.int .i64 0, .string (⟨#[]⟩ : ByteArray), .int .i64 0, .int .u32 0, .int .i64 0, .int .i64 0]) (t := 33) (h := ?_); intro gb152 hg w48 hbox hb; have BK152 := Aside0.mk hbox; have GW152 : Aside0 (w.heap.size ≤ gb152) := bge hg; have GE152 : Aside0 (w.heap.size ≤ gb152) := bge hg; replace HO_4 := Aside0.mk (Kd.R_below (Kd.R_elderB (kR HO_4) gb152 (Nat.le_of_eq hg.symm)) hb); replace HB := bst hb; clear hb hbox hg; obtain ⟨hcz49_0, hcz49_1, hcz49_2, hcz49_3, hcz49_4, hcz49_5, hfz49_0, hfz49_1, hfz49_2, hfz49_3, hfz49_4, hfz49_5⟩ := bc6 BK152))
                    refine wpGen ?_
                    intro w_ hw_
                    replace BK152 : Aside0 (w_.heap[gb152]? = some (.cells #[.int .i64 t145, .string t146, .int .i64 t147, .int .u32 t148, .int .i64 t149, .int .i64 x5_1] 33 (0, 0))) := ⟨by rw [hw_]; exact bkp BK152⟩
                    obtain ⟨ok_, hOn1, hOn2⟩ : ∃ ok_ : Nat → Prop, (∀ k_, ok_ k_ → k_ ≠ gb152) ∧ Kd.R k33 33 w_ w.heap.size ok_ u4 x4_1 := by rw [hw_]; exact ⟨_, fun _ hk => hk.2, (Kd.R_far (p := ⟨gb152, 5, none⟩) (Kd.R_far (p := ⟨gb152, 5, none⟩) (Kd.R_far (p := ⟨gb152, 4, none⟩) (Kd.R_far (p := ⟨gb152, 3, none⟩) (Kd.R_far (p := ⟨gb152, 2, none⟩) (Kd.R_far (p := ⟨gb152, 1, none⟩) (Kd.R_far (p := ⟨gb152, 0, none⟩) (Kd.R_mono HO_4.out (fun k_ hk => (⟨hk, hk.2⟩ : _ ∧ k_ ≠ gb152))) (fun _ hk => hk.2) (.int .i64 t145)) (fun _ hk => hk.2) (.string t146)) (fun _ hk => hk.2) (.int .i64 t147)) (fun _ hk => hk.2) (.int .u32 t148)) (fun _ hk => hk.2) (.int .i64 t149)) (fun _ hk => hk.2) (.int .i64 t150)) (fun _ hk => hk.2) (.int .i64 x5_1))⟩
                    replace HB : Aside0 (Below w.heap.size w w_) := ⟨by rw [hw_]; exact bel⟩
                    clear hw_
                    obtain ⟨hw_0, hw_1, hw_2, hw_3, hw_4, hw_5, hw_6, hw_7, hw_8, hw_9, hw_10, hw_11⟩ := bc6 BK152
                    go_wp2_with (((with_reducible refine gate_builtin (b := .append) (xs := #[.tmp 99, .tmp 101]) rfl ?_); at_builtin; refine Kd.R_append k33 (w0 := w) w.heap.size rfl (.tmp 99) (.tmp 101) 23 33 (.agg #[(.int .i64 0), (.string ⟨#[]⟩), (.int .i64 0), (.int .u32 0), (.int .i64 0), (.int .i64 0)]) 56 rfl Tryd.underlying23 info33 rfl (by decide) (by omega) u4 x4_1 (⟨t145, t146, t147, (⟨t148, t149⟩ : S31), x5_1⟩ : S33) [.int .i64 t145, .string t146, .int .i64 t147, .int .u32 t148, .int .i64 t149, .int .i64 x5_1] (fun k_ => k_ ≠ gb152) (fun _ => False) rfl (by first | (go_simp; done) | (go_simp; rfl)) ?aP (fun _ hk => hk.elim) ?aF ?aO ?aB ?aS ?aL ?_; (case aP => exact k33_mkM _ _ _ (⟨t145, t146, t147, (⟨t148, t149⟩ : S31), x5_1⟩ : S33)); (case aB => exact bel); (case aF => exact (fun k_ hk => Kd.freshB (g := gb152) (o := .cells #[.int .i64 t145, .string t146, .int .i64 t147, .int .u32 t148, .int .i64 t149, .int .i64 x5_1] 33 (0, 0)) (bkp BK152) k_ hk)); (case aO => exact Kd.R_mono hOn2 hOn1); (case aS => exact (below_size bel)); (case aL => have := LMc46.out; omega); intro v154 w50 ho hb hg hat; rw [← Ny153.out] at ho; have HO155 := Aside0.mk ho; replace BK152 := Aside0.mk (blk_grown (g := gb152) (o := .cells #[.int .i64 t145, .string t146, .int .i64 t147, .int .u32 t148, .int .i64 t149, .int .i64 x5_1] 33 (0, 0)) (bkp BK152) hg (Kd.R_away hOn2 hOn1)); replace HB := Aside0.mk (hb); clear HO_4; clear ho hb hg hat))
                    go_roundg kj34
                    case measure => have := HK1.out; have := HJ7.out; have := HJ34.out; omega
                    case rel => exact ⟨(y153), (x7_34), (by first | rfl | (simp; done) | (simp [*]; done)), H', ⟨by have := HK1.out; have := HJ7.out; have := HJ34.out; omega⟩, ⟨by (with_reducible repeat (first | apply Kd.R_alloc | apply Kd.R_drewN | apply Kd.R_drew)); exact Kd.R_mono HO155.out (fun _ hk => trivial)⟩, ⟨by repeat (first | (with_reducible first | exact HB.out | apply below_alloc | apply pw_below_drewN | apply below_drew1 | refine below_set ?_ GE152.out) | exact HB.out)⟩⟩
                   ·rw [if_neg c46] at H
                    exact absurd H (by simp)
                  ·replace c45 := Bool.eq_false_iff.mpr c45
                   subst c45
                   have H1 : ((api_Wrap.f 1 x5_1).bind fun t156 => (some (([] : List (S33)), t156))) = some (r1, r2) := by rw [if_neg (show ¬ (false = true) by decide)] at H; exact H
                   clear H
                   have H := H1
                   clear H1
                   replace H := Option.bind_eq_some_iff.mp H
                   obtain ⟨t156, A510, H⟩ := H
                   replace H : (some (([] : List (S33)), t156)) = some (r1, r2) := H
                   have A51 := Aside0.mk A510
                   clear A510
                   simp only [Option.some.injEq, Prod.mk.injEq] at H
                   obtain ⟨rfl, rfl⟩ := H
                   go_wp2_with (first | ((with_reducible refine gate_dst (N := 90) rfl ?_); refine gl (some 90) Tryd.func16 #[.string (a0.extract (x5_1 : Int).toNat (x7_34 : Int).toNat)] ?_; (with_reducible refine (token_piece.calls kj34 (a0.extract (x5_1 : Int).toNat (x7_34 : Int).toNat) t145 t146 t147 t148 t149 t150 false _ A44.out (Go.Proofs.YthodilggomedgaaDoor.Inv.ivb hInv)).mono ?_); rintro e w52 ⟨rfl, hb⟩; refine ⟨_, rfl, ?_⟩; replace HO_4 := Aside0.mk (Kd.R_below (kR HO_4) hb); replace HB := bst hb; (try clear hb); (try clear hb2); (try clear hk); (try clear hi)) | ((with_reducible refine gate_dst (N := 8) rfl ?_); refine bx 8 (cs := #[.int .i64 0, .string (⟨#[]⟩ : ByteArray), .int .i64 0, .int .u32 0, .int .i64 0, .int .i64 0]) (t := 33) (h := ?_); intro gb152 hg w53 hbox hb; have BK152 := Aside0.mk hbox; have GW152 : Aside0 (w.heap.size ≤ gb152) := bge hg; have GE152 : Aside0 (w.heap.size ≤ gb152) := bge hg; replace HO_4 := Aside0.mk (Kd.R_below (Kd.R_elderB (kR HO_4) gb152 (Nat.le_of_eq hg.symm)) hb); replace HB := bst hb; clear hb hbox hg; obtain ⟨hcz54_0, hcz54_1, hcz54_2, hcz54_3, hcz54_4, hcz54_5, hfz54_0, hfz54_1, hfz54_2, hfz54_3, hfz54_4, hfz54_5⟩ := bc6 BK152) | ((with_reducible refine gate_dst (N := 96) rfl ?_); refine gl (some 96) Tryd.func14 #[.int .i64 1, .int .i64 x5_1] ?_; (with_reducible refine (api_Wrap.calls 1 x5_1 t156 _ A51.out).mono ?_); rintro e w55 ⟨rfl, hb⟩; refine ⟨_, rfl, ?_⟩; replace HO_4 := Aside0.mk (Kd.R_below (by (with_reducible repeat (first | apply Kd.R_alloc | apply Kd.R_drewN | apply Kd.R_drew)); exact (Kd.R_mono (Kd.R_far (p := ⟨gb152, 5, none⟩) (Kd.R_far (p := ⟨gb152, 4, none⟩) (Kd.R_far (p := ⟨gb152, 3, none⟩) (Kd.R_far (p := ⟨gb152, 2, none⟩) (Kd.R_far (p := ⟨gb152, 1, none⟩) (Kd.R_far (p := ⟨gb152, 0, none⟩) (Kd.R_mono HO_4.out (fun k_ hk => (⟨hk, hk.2⟩ : _ ∧ k_ ≠ gb152))) (fun _ hk => hk.2) (.int .i64 t145)) (fun _ hk => hk.2) (.string t146)) (fun _ hk => hk.2) (.int .i64 t147)) (fun _ hk => hk.2) (.int .u32 t148)) (fun _ hk => hk.2) (.int .i64 t149)) (fun _ hk => hk.2) (.int .i64 t150)) (fun _ h_ => h_.1))) hb); replace BK152 := Aside0.mk (blk_below (g := gb152) (o := .cells #[.int .i64 t145, .string t146, .int .i64 t147, .int .u32 t148, .int .i64 t149, .int .i64 t150] 33 (0, 0)) (bkp BK152) hb); replace HB := bst hb; (try clear hb); (try clear hb2); (try clear hk); (try clear hi); (try simp only [errW_none, errW_some])))
                   refine (show ∀ {Q : Exit → Act → World → Prop} {a : Act} {w : World}, Q .ret a w → Exit.noGoto Q .ret a w from fun h => h) ?_
                   go_ret2
                   exact ⟨_, by first | rfl | (simp [errW_none, errW_some] <;> rfl) | (simp [*, errW_none, errW_some] <;> rfl), by first | exact Kd.R_nil _ _ _ _ _ | exact Kd.N_nil _ _ _ _ _ | exact Kd.V_nil _ _ _ _ _ | exact Kd.Q_nil _ _ _ _ _ | exact Kd.S_nil _ _ _ _ _, by repeat (first | (with_reducible first | exact HB.out | apply below_alloc | apply pw_below_drewN | apply below_drew1 | refine below_set ?_ GE152.out) | exact HB.out)⟩
                 ·rw [if_neg c43] at H
                  exact absurd H (by simp)
                ·rw [if_neg c42] at H
                 exact absurd H (by simp)
               ·rw [if_neg c41] at H
                exact absurd H (by simp)
     ·rw [if_neg c6] at H
      exact absurd H (by simp)
    ·rw [if_neg c5] at H
     have c5b0 := decide_eq_false c5
     clear c5
     by_cases c56 : x4_1.length < 2513169434916
     ·rw [if_pos c56] at H
      have LMc56 := Aside0.mk c56
      clear c56
      obtain ⟨y132, hy132⟩ : ∃ y_ : List (S33), y_ = (x4_1 ++ [(⟨0, (⟨#[]⟩ : ByteArray), 0, (⟨0, 0⟩ : S31), (a0.size : Int)⟩ : S33)]) := ⟨_, rfl⟩
      replace H : (some (y132, none)) = some (r1, r2) := by first | (rw [hy132]; with_reducible exact H) | (have H2_ := (Option.bind_some _ _).symm.trans H; rw [hy132]; with_reducible exact H2_) | (have H2_ := (Option.bind_some _ _).symm.trans H; with_reducible exact H2_) | with_reducible exact H | (rw [hy132]; exact H) | exact H
      have Ny132 := Aside0.mk hy132
      clear hy132
      simp only [Option.some.injEq, Prod.mk.injEq] at H
      obtain ⟨rfl, rfl⟩ := H
      go_wp2_with (first | ((with_reducible refine gate_builtin (b := .append) (xs := #[.tmp 104, .tmp 108]) rfl ?_); at_builtin; refine Kd.R_append k33 (w0 := w) w.heap.size rfl (.tmp 104) (.tmp 108) 23 33 (.agg #[(.int .i64 0), (.string ⟨#[]⟩), (.int .i64 0), (.int .u32 0), (.int .i64 0), (.int .i64 0)]) 56 rfl Tryd.underlying23 info33 rfl (by decide) (by omega) u4 x4_1 (⟨0, (⟨#[]⟩ : ByteArray), 0, (⟨0, 0⟩ : S31), (a0.size : Int)⟩ : S33) [.int .i64 0, .string (⟨#[]⟩ : ByteArray), .int .i64 0, .int .u32 0, .int .i64 0, .int .i64 (a0.size : Int)] (fun _ => True) (fun _ => False) rfl rfl ?aP (fun _ hk => hk.elim) ?aF ?aO ?aB ?aS ?aL ?_; (case aP => exact k33_mkM _ _ _ (⟨0, (⟨#[]⟩ : ByteArray), 0, (⟨0, 0⟩ : S31), (a0.size : Int)⟩ : S33)); (case aB => exact bel); (case aF => exact (fun _ _ => trivial)); (case aO => exact (kR HO_4)); (case aS => exact (below_size bel)); (case aL => have := LMc56.out; omega); intro v133 w57 ho hb hg hat; rw [← Ny132.out] at ho; have HO134 := Aside0.mk ho; replace HB := Aside0.mk (hb); clear HO_4; clear ho hb hg hat))
      refine (show ∀ {Q : Exit → Act → World → Prop} {a : Act} {w : World}, Q .ret a w → Exit.noGoto Q .ret a w from fun h => h) ?_
      go_ret2
      exact ⟨_, by first | rfl | (simp [errW_none, errW_some] <;> rfl) | (simp [*, errW_none, errW_some] <;> rfl), by (with_reducible repeat (first | apply Kd.R_alloc | apply Kd.R_drewN | apply Kd.R_drew)); exact HO134.out, by repeat (first | (with_reducible first | exact HB.out | apply below_alloc | apply pw_below_drewN | apply below_drew1) | exact HB.out)⟩
     ·rw [if_neg c56] at H
      exact absurd H (by simp)

end Go.Proofs.YthodilggomedgaaDoor.PTb
