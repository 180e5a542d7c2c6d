-- Written by wip/xprint.py of this work: the printer of the kit, with contracts of this work beside it, shortened.
import Derived.Scope
import Derived.Test.YthodilggomedgaaDoorShort
import Derived.Test.YthodilggomedgaaDoorPTbx0
import Derived.Test.YthodilggomedgaaDoorPTbx19
import Derived.Test.YthodilggomedgaaDoorPTbx21
namespace Go.Proofs.YthodilggomedgaaDoor.PTb
open Go.RowKit Go.Proofs.YthodilggomedgaaDoor.Short Go.Proofs.YthodilggomedgaaDoorW.PrintWords Go.Proofs.YthodilggomedgaaDoorW.PrintLast Go.Proofs.YthodilggomedgaaDoorW.PrintMore
attribute [local go_sem] max2_int min2_int max_two min_two max_three min_three max_four min_four   -- for this text's walks alone
set_option linter.unusedVariables false
set_option linter.unusedSimpArgs false

/-! ### maquettelaw06_cut: function 11 -/
mutual
def maquettelaw06_cut.l0 : Nat → ByteArray → List (S33) → Int → Option ((List (S33)) × Int)
 | 0, _, _, _ => none
 | k + 1, x0, x4, x5 => if x5 < (x0.size : Int) then (if 0 ≤ x5 then (if (bt x0 x5) = 32 then (maquettelaw06_cut.j1 k x0 x4 x5 (bt x0 x5) true) else (if (bt x0 x5) = 9 then (maquettelaw06_cut.j1 k x0 x4 x5 (bt x0 x5) true) else (maquettelaw06_cut.j1 k x0 x4 x5 (bt x0 x5) ((bt x0 x5) == 10)))) else (none)) else (if x4.length < 2513169434916 then (some ((x4 ++ [(⟨0, (⟨#[]⟩ : ByteArray), 0, (⟨0, 0⟩ : S31), (x0.size : Int)⟩ : S33)]), (-1))) else (none))
def maquettelaw06_cut.j1 : Nat → ByteArray → List (S33) → Int → Int → Bool → Option ((List (S33)) × Int)
 | 0, _, _, _, _, _ => none
 | k + 1, x0, x4, x5, x6, x48 => if x48 = true then (maquettelaw06_cut.l0 k x0 x4 (wrap64 (x5 + 1))) else (if x6 = 35 then (maquettelaw06_cut.l1 k x0 x4 x5) else (if x6 = 123 then (maquettelaw06_cut.j3 k x0 x4 x5 true) else (if x6 = 125 then (maquettelaw06_cut.j3 k x0 x4 x5 true) else (maquettelaw06_cut.j3 k x0 x4 x5 (x6 == 59)))))
def maquettelaw06_cut.l1 : Nat → ByteArray → List (S33) → Int → Option ((List (S33)) × Int)
 | 0, _, _, _ => none
 | k + 1, x0, x4, x5 => if x5 < (x0.size : Int) then (if 0 ≤ x5 then (if (bt x0 x5) = 10 then (maquettelaw06_cut.l0 k x0 x4 x5) else (maquettelaw06_cut.l1 k x0 x4 (wrap64 (x5 + 1)))) else (none)) else (maquettelaw06_cut.l0 k x0 x4 x5)
def maquettelaw06_cut.j3 : Nat → ByteArray → List (S33) → Int → Bool → Option ((List (S33)) × Int)
 | 0, _, _, _, _ => none
 | k + 1, x0, x4, x5, x76 => if x76 = true then (if 0 ≤ x5 then (if x5 ≤ (wrap64 (x5 + 1)) then (if (wrap64 (x5 + 1)) ≤ (x0.size : Int) then (if x4.length < 2513169434916 then (maquettelaw06_cut.l0 k x0 (x4 ++ [(⟨4, x0.extract (x5 : Int).toNat ((wrap64 (x5 + 1)) : Int).toNat, 0, (⟨0, 0⟩ : S31), x5⟩ : S33)]) (wrap64 (x5 + 1))) else (none)) else (none)) else (none)) else (none)) else (maquettelaw06_cut.l2 k x0 x4 x5 x5)
def maquettelaw06_cut.l2 : Nat → ByteArray → List (S33) → Int → Int → Option ((List (S33)) × Int)
 | 0, _, _, _, _ => none
 | k + 1, x0, x4, x5, x7 => if x7 < (x0.size : Int) then (if 0 ≤ x7 then ((maquettelaw06_part.f (bt x0 x7)).bind fun t200 => (if t200 = true then (maquettelaw06_cut.l2 k x0 x4 x5 (wrap64 (x7 + 1))) else (if 0 ≤ x5 then (if x5 ≤ x7 then (if x7 ≤ (x0.size : Int) then ((maquettelaw06_piece.f k (x0.extract (x5 : Int).toNat (x7 : Int).toNat)).bind fun bt201 => (if bt201.2.2.2.2.2.2 = true then (if x4.length < 2513169434916 then (maquettelaw06_cut.l0 k x0 (x4 ++ [(⟨bt201.1, bt201.2.1, bt201.2.2.1, (⟨bt201.2.2.2.1, bt201.2.2.2.2.1⟩ : S31), x5⟩ : S33)]) x7) else (none)) else (some (([] : List (S33)), x5)))) else (none)) else (none)) else (none)))) else (none)) else (if 0 ≤ x5 then (if x5 ≤ x7 then (if x7 ≤ (x0.size : Int) then ((maquettelaw06_piece.f k (x0.extract (x5 : Int).toNat (x7 : Int).toNat)).bind fun bt212 => (if bt212.2.2.2.2.2.2 = true then (if x4.length < 2513169434916 then (maquettelaw06_cut.l0 k x0 (x4 ++ [(⟨bt212.1, bt212.2.1, bt212.2.2.1, (⟨bt212.2.2.2.1, bt212.2.2.2.2.1⟩ : S31), x5⟩ : S33)]) x7) else (none)) else (some (([] : List (S33)), x5)))) else (none)) else (none)) else (none))
end
def maquettelaw06_cut.f (k : Nat) (a0 : ByteArray) : Option ((List (S33)) × Int) := maquettelaw06_cut.l0 k a0 ([] : List (S33)) 0
theorem maquettelaw06_cut.mono_l : ∀ k, (∀ y0 y1 y2, LeO (maquettelaw06_cut.l0 k y0 y1 y2) (maquettelaw06_cut.l0 (k + 1) y0 y1 y2)) ∧ (∀ y0 y1 y2 y3 y4, LeO (maquettelaw06_cut.j1 k y0 y1 y2 y3 y4) (maquettelaw06_cut.j1 (k + 1) y0 y1 y2 y3 y4)) ∧ (∀ y0 y1 y2, LeO (maquettelaw06_cut.l1 k y0 y1 y2) (maquettelaw06_cut.l1 (k + 1) y0 y1 y2)) ∧ (∀ y0 y1 y2 y3, LeO (maquettelaw06_cut.j3 k y0 y1 y2 y3) (maquettelaw06_cut.j3 (k + 1) y0 y1 y2 y3)) ∧ (∀ y0 y1 y2 y3, LeO (maquettelaw06_cut.l2 k y0 y1 y2 y3) (maquettelaw06_cut.l2 (k + 1) y0 y1 y2 y3))
 | 0 => ⟨fun _ _ _ r h => by simp [maquettelaw06_cut.l0] at h, fun _ _ _ _ _ r h => by simp [maquettelaw06_cut.j1] at h, fun _ _ _ r h => by simp [maquettelaw06_cut.l1] at h, fun _ _ _ _ r h => by simp [maquettelaw06_cut.j3] at h, fun _ _ _ _ r h => by simp [maquettelaw06_cut.l2] at h⟩
 | k + 1 => by
  obtain ⟨ih0, ih1, ih2, ih3, ih4⟩ := maquettelaw06_cut.mono_l k
  refine ⟨?_, ?_, ?_, ?_, ?_⟩<;> intros <;> (first | unfold maquettelaw06_cut.l0 | unfold maquettelaw06_cut.j1 | unfold maquettelaw06_cut.l1 | unfold maquettelaw06_cut.j3 | unfold maquettelaw06_cut.l2) <;> repeat' first
   | (with_reducible exact ih0 _ _ _)
   | (with_reducible exact ih1 _ _ _ _ _)
   | (with_reducible exact ih2 _ _ _)
   | (with_reducible exact ih3 _ _ _ _)
   | (with_reducible exact ih4 _ _ _ _)
   | (with_reducible exact maquettelaw06_piece.mono _ _)
   | (with_reducible exact LeO.refl _)
   | (with_reducible exact LeO.none _)
   | (with_reducible refine LeO.ite ?_ ?_)
   | (with_reducible refine LeO.bind ?_ (fun _ => ?_))
   | exact ih0 _ _ _
   | exact ih1 _ _ _ _ _
   | exact ih2 _ _ _
   | exact ih3 _ _ _ _
   | exact ih4 _ _ _ _
   | exact maquettelaw06_piece.mono _ _
   | exact LeO.none _
   | refine LeO.ite ?_ ?_
   | refine LeO.bind ?_ (fun _ => ?_)
theorem maquettelaw06_cut.mono : ∀ a0 k, LeO (maquettelaw06_cut.f k a0) (maquettelaw06_cut.f (k + 1) a0) := by
 intro a0 k
 obtain ⟨ih0, ih1, ih2, ih3, ih4⟩ := maquettelaw06_cut.mono_l k
 unfold maquettelaw06_cut.f
 repeat' first
   | (with_reducible exact ih0 _ _ _)
   | (with_reducible exact ih1 _ _ _ _ _)
   | (with_reducible exact ih2 _ _ _)
   | (with_reducible exact ih3 _ _ _ _)
   | (with_reducible exact ih4 _ _ _ _)
   | (with_reducible exact maquettelaw06_piece.mono _ _)
   | (with_reducible exact LeO.refl _)
   | (with_reducible exact LeO.none _)
   | (with_reducible refine LeO.ite ?_ ?_)
   | (with_reducible refine LeO.bind ?_ (fun _ => ?_))
   | exact ih0 _ _ _
   | exact ih1 _ _ _ _ _
   | exact ih2 _ _ _
   | exact ih3 _ _ _ _
   | exact ih4 _ _ _ _
   | exact maquettelaw06_piece.mono _ _
   | exact LeO.none _
   | refine LeO.ite ?_ ?_
   | refine LeO.bind ?_ (fun _ => ?_)
set_option maxHeartbeats 8000000 in
set_option maxRecDepth 100000 in
theorem maquettelaw06_cut.calls (k : Nat) (a0 : ByteArray) (r1 : List (S33)) (r2 : Int) (w : World) (h : maquettelaw06_cut.f k a0 = some (r1, r2)) (hInv : Go.Proofs.YthodilggomedgaaDoor.Inv.Inv w) :
  Calls Tryd.prog 11 #[.string a0] w fun e w' => ∃ v0_ : Value, e = .returned (.tuple #[v0_, .int .i64 r2]) ∧ Kd.R k33 33 w' w.heap.size (fun _ => True) v0_ r1 ∧ Below w.heap.size w w' := by
 have hu33 := Tryd.underlying33
 have HB := Aside0.mk (Below.refl w.heap.size w)
 have H : (maquettelaw06_cut.l0 k a0 ([] : List (S33)) 0) = some (r1, r2) := h
 clear h
 have H' := Aside0.mk H
 clear H
 go_enter Tryd.func11, Tryd.ntmps11
 go_wp2
 go_loopg [4, 5] k (fun kq v4 v5 w' => ∃ (x4_1 : List (S33)) (x5_1 : Int), v5 = .int .i64 x5_1 ∧ Aside0 (maquettelaw06_cut.l0 kq a0 x4_1 x5_1 = some (r1, r2)) ∧ Aside0 (kq ≤ k) ∧ Aside0 (Kd.R k33 33 w' w.heap.size (fun _ => True) v4 x4_1) ∧ Aside0 (Below w.heap.size w w'))
 case atStart => exact ⟨(([] : List (S33))), (0), (by first | rfl | (simp; done) | (simp [*]; done)), H', ⟨Nat.le_refl _⟩, ⟨by first | exact Kd.R_nil _ _ _ _ _ | exact Kd.N_nil _ _ _ _ _ | exact Kd.V_nil _ _ _ _ _ | exact Kd.Q_nil _ _ _ _ _ | exact Kd.S_nil _ _ _ _ _⟩, ⟨by repeat (first | (with_reducible first | exact HB.out | apply below_alloc | apply pw_below_drewN | apply below_drew1) | exact HB.out)⟩⟩
 case round =>
  clear H'
  try clear c1
  obtain ⟨x4_1, x5_1, rfl, HA, HK1, HO_4, HB⟩ := hrel
  cases gk with
  | zero => exact absurd HA.out (by simp [maquettelaw06_cut.l0])
  | succ k1 =>
   have H := HA.out
   clear HA
   simp only [maquettelaw06_cut.l0] at H
   by_cases c2 : x5_1 < (a0.size : Int)
   ·rw [if_pos c2] at H
    have c2b0 := decide_eq_true c2
    clear c2
    by_cases c3 : 0 ≤ x5_1
    ·rw [if_pos c3] at H
     have c3b0 := decide_eq_true c3
     clear c3
     have HC5 := Aside0.mk H
     clear H
     have p4 : 0 ≤ (x5_1 : Int) := of_decide_eq_true (by first | (with_reducible assumption) | assumption)
     have q4 : x5_1 < (a0.size : Int) := of_decide_eq_true (by first | (with_reducible assumption) | assumption)
     have hx4 := bt_at a0 x5_1
     replace p4 := eq_true p4
     replace q4 := eq_true q4
     go_upto_region 13 with (fail)
     go_cut [48] (fun v48 wc => ∃ (kq : Nat) (x48_4 : Bool), v48 = .bool x48_4 ∧ Aside0 (maquettelaw06_cut.j1 kq a0 x4_1 x5_1 (bt a0 x5_1) x48_4 = some (r1, r2)) ∧ Aside0 (kq ≤ k1) ∧ Aside0 (Kd.R k33 33 wc w.heap.size (fun _ => True) u4 x4_1) ∧ Aside0 (Below w.heap.size w wc))
     case first =>
      have H := HC5.out
      clear HC5
      by_cases c6 : (bt a0 x5_1) = 32
      ·rw [if_pos c6] at H
       have c6b0 : ((bt a0 x5_1) == 32) = true := beq_iff_eq.mpr c6
       have c6b1 : ((bt a0 x5_1) != 32) = false := bne_eq_false_iff_eq.mpr c6
       clear c6
       (first | rw [c6b0] | (simp only [i64_w, i32_w]; rw [c6b0]) | skip)
       have H' := Aside0.mk H
       clear H
       go_wp2
       go_meet
       case rel => exact ⟨_, (true), (by first | rfl | (simp; done) | (simp [*]; done)), H', ⟨by have := HK1.out; first | omega | exact Nat.le_refl _⟩, ⟨by (with_reducible repeat (first | apply Kd.R_alloc | apply Kd.R_drewN | apply Kd.R_drew)); exact HO_4.out⟩, ⟨by repeat (first | (with_reducible first | exact HB.out | apply below_alloc | apply pw_below_drewN | apply below_drew1) | exact HB.out)⟩⟩
      ·rw [if_neg c6] at H
       have c6b0 : ((bt a0 x5_1) == 32) = false := beq_eq_false_iff_ne.mpr c6
       have c6b1 : ((bt a0 x5_1) != 32) = true := bne_iff_ne.mpr c6
       (first | rw [c6b0] | (simp only [i64_w, i32_w]; rw [c6b0]) | skip)
       by_cases c7 : (bt a0 x5_1) = 9
       ·rw [if_pos c7] at H
        have c7b0 : ((bt a0 x5_1) == 9) = true := beq_iff_eq.mpr c7
        have c7b1 : ((bt a0 x5_1) != 9) = false := bne_eq_false_iff_eq.mpr c7
        clear c7
        have H' := Aside0.mk H
        clear H
        go_wp2
        go_meet
        case rel => exact ⟨_, (true), (by first | rfl | (simp; done) | (simp [*]; done)), H', ⟨by have := HK1.out; first | omega | exact Nat.le_refl _⟩, ⟨by (with_reducible repeat (first | apply Kd.R_alloc | apply Kd.R_drewN | apply Kd.R_drew)); exact HO_4.out⟩, ⟨by repeat (first | (with_reducible first | exact HB.out | apply below_alloc | apply pw_below_drewN | apply below_drew1) | exact HB.out)⟩⟩
       ·rw [if_neg c7] at H
        have c7b0 : ((bt a0 x5_1) == 9) = false := beq_eq_false_iff_ne.mpr c7
        have c7b1 : ((bt a0 x5_1) != 9) = true := bne_iff_ne.mpr c7
        have H' := Aside0.mk H
        clear H
        go_wp2
        go_meet
        case rel => exact ⟨_, (((bt a0 x5_1) == 10)), (by first | rfl | (simp; done) | (simp [*]; done)), H', ⟨by have := HK1.out; first | omega | exact Nat.le_refl _⟩, ⟨by (with_reducible repeat (first | apply Kd.R_alloc | apply Kd.R_drewN | apply Kd.R_drew)); exact HO_4.out⟩, ⟨by repeat (first | (with_reducible first | exact HB.out | apply below_alloc | apply pw_below_drewN | apply below_drew1) | exact HB.out)⟩⟩
     case rest =>
      clear HC5
      try clear c1
      try clear c2
      try clear c2b0
      try clear p2
      try clear c3
      try clear c3b0
      try clear p4 p4
      try clear q4 q4
      try clear hx4
      try clear c6
      try clear c6b0
      try clear c6b1
      try clear c7
      try clear c7b0
      try clear c7b1
      obtain ⟨kq, x48_4, rfl, HA, HJ4, HO_4, HB⟩ := hcut
      cases kq with
      | zero => exact absurd HA.out (by simp [maquettelaw06_cut.j1])
      | succ kj4 =>
       have H := HA.out
       clear HA
       simp only [maquettelaw06_cut.j1] at H
       by_cases c8 : x48_4 = true
       ·subst c8
        have H1 : (maquettelaw06_cut.l0 kj4 a0 x4_1 (wrap64 (x5_1 + 1))) = some (r1, r2) := by rw [if_pos rfl] at H; exact H
        clear H
        have H := H1
        clear H1
        have H' := Aside0.mk H
        clear H
        go_wp2
        go_roundg kj4
        case measure => have := HK1.out; have := HJ4.out; omega
        case rel => exact ⟨(x4_1), (wrap64 (x5_1 + 1)), (by first | rfl | (simp; done) | (simp [*]; done)), H', ⟨by have := HK1.out; have := HJ4.out; omega⟩, ⟨by (with_reducible repeat (first | apply Kd.R_alloc | apply Kd.R_drewN | apply Kd.R_drew)); exact HO_4.out⟩, ⟨by repeat (first | (with_reducible first | exact HB.out | apply below_alloc | apply pw_below_drewN | apply below_drew1) | exact HB.out)⟩⟩
       ·replace c8 := Bool.eq_false_iff.mpr c8
        subst c8
        have H1 : (if (bt a0 x5_1) = 35 then (maquettelaw06_cut.l1 kj4 a0 x4_1 x5_1) else (if (bt a0 x5_1) = 123 then (maquettelaw06_cut.j3 kj4 a0 x4_1 x5_1 true) else (if (bt a0 x5_1) = 125 then (maquettelaw06_cut.j3 kj4 a0 x4_1 x5_1 true) else (maquettelaw06_cut.j3 kj4 a0 x4_1 x5_1 ((bt a0 x5_1) == 59))))) = some (r1, r2) := by rw [if_neg (show ¬ (false = true) by decide)] at H; exact H
        clear H
        have H := H1
        clear H1
        by_cases c9 : (bt a0 x5_1) = 35
        ·rw [if_pos c9] at H
         have c9b0 : ((bt a0 x5_1) == 35) = true := beq_iff_eq.mpr c9
         have c9b1 : ((bt a0 x5_1) != 35) = false := bne_eq_false_iff_eq.mpr c9
         clear c9
         have H' := Aside0.mk H
         clear H
         go_wp2
         go_loopg [5] kj4 (fun kq v5 w' => ∃ (x5_3 : Int), v5 = .int .i64 x5_3 ∧ Aside0 (maquettelaw06_cut.l1 kq a0 x4_1 x5_3 = some (r1, r2)) ∧ Aside0 (kq ≤ kj4) ∧ Aside0 (Kd.R k33 33 w' w.heap.size (fun _ => True) u4 x4_1) ∧ Aside0 (Below w.heap.size w w'))
         case atStart => exact ⟨(x5_1), (by first | rfl | (simp; done) | (simp [*]; done)), H', ⟨Nat.le_refl _⟩, ⟨by (with_reducible repeat (first | apply Kd.R_alloc | apply Kd.R_drewN | apply Kd.R_drew)); exact HO_4.out⟩, ⟨by repeat (first | (with_reducible first | exact HB.out | apply below_alloc | apply pw_below_drewN | apply below_drew1) | exact HB.out)⟩⟩
         case round =>
          clear H'
          try clear c1
          try clear c2
          try clear c2b0
          try clear p2 p2
          try clear c3
          try clear c3b0
          try clear p4 p4
          try clear q4 q4
          try clear hx4
          try clear c6
          try clear c6b0
          try clear c6b1
          try clear p6
          try clear c7
          try clear c7b0
          try clear c7b1
          try clear c8
          try clear c9
          try clear c9b0
          try clear c9b1
          obtain ⟨x5_3, rfl, HA, HK3, HO_4, HB⟩ := hrel
          cases gk with
          | zero => exact absurd HA.out (by simp [maquettelaw06_cut.l1])
          | succ k3 =>
           have H := HA.out
           clear HA
           simp only [maquettelaw06_cut.l1] at H
           by_cases c10 : x5_3 < (a0.size : Int)
           ·rw [if_pos c10] at H
            have c10b0 := decide_eq_true c10
            clear c10
            by_cases c11 : 0 ≤ x5_3
            ·rw [if_pos c11] at H
             have c11b0 := decide_eq_true c11
             clear c11
             by_cases c13 : (bt a0 x5_3) = 10
             ·rw [if_pos c13] at H
              have c13b0 : ((bt a0 x5_3) == 10) = true := beq_iff_eq.mpr c13
              have c13b1 : ((bt a0 x5_3) != 10) = false := bne_eq_false_iff_eq.mpr c13
              clear c13
              have H' := Aside0.mk H
              clear H
              have p12 : 0 ≤ (x5_3 : Int) := of_decide_eq_true (by first | (with_reducible assumption) | assumption)
              have q12 : x5_3 < (a0.size : Int) := of_decide_eq_true (by first | (with_reducible assumption) | assumption)
              have hx12 := bt_at a0 x5_3
              replace p12 := eq_true p12
              replace q12 := eq_true q12
              go_wp2
              go_roundg k3
              case measure => have := HK1.out; have := HJ4.out; have := HK3.out; omega
              case rel => exact ⟨(x4_1), (x5_3), (by first | rfl | (simp; done) | (simp [*]; done)), H', ⟨by have := HK1.out; have := HJ4.out; have := HK3.out; omega⟩, ⟨by (with_reducible repeat (first | apply Kd.R_alloc | apply Kd.R_drewN | apply Kd.R_drew)); exact HO_4.out⟩, ⟨by repeat (first | (with_reducible first | exact HB.out | apply below_alloc | apply pw_below_drewN | apply below_drew1) | exact HB.out)⟩⟩
             ·rw [if_neg c13] at H
              have c13b0 : ((bt a0 x5_3) == 10) = false := beq_eq_false_iff_ne.mpr c13
              have c13b1 : ((bt a0 x5_3) != 10) = true := bne_iff_ne.mpr c13
              have H' := Aside0.mk H
              clear H
              have p12 : 0 ≤ (x5_3 : Int) := of_decide_eq_true (by first | (with_reducible assumption) | assumption)
              have q12 : x5_3 < (a0.size : Int) := of_decide_eq_true (by first | (with_reducible assumption) | assumption)
              have hx12 := bt_at a0 x5_3
              replace p12 := eq_true p12
              replace q12 := eq_true q12
              go_wp2
              go_roundg k3
              case measure => have := HK1.out; have := HJ4.out; have := HK3.out; omega
              case rel => exact ⟨(wrap64 (x5_3 + 1)), (by first | rfl | (simp; done) | (simp [*]; done)), H', ⟨by have := HK1.out; have := HJ4.out; have := HK3.out; omega⟩, ⟨by (with_reducible repeat (first | apply Kd.R_alloc | apply Kd.R_drewN | apply Kd.R_drew)); exact HO_4.out⟩, ⟨by repeat (first | (with_reducible first | exact HB.out | apply below_alloc | apply pw_below_drewN | apply below_drew1) | exact HB.out)⟩⟩
            ·rw [if_neg c11] at H
             exact absurd H (by simp)
           ·rw [if_neg c10] at H
            have c10b0 := decide_eq_false c10
            clear c10
            have H' := Aside0.mk H
            clear H
            go_wp2
            go_roundg k3
            case measure => have := HK1.out; have := HJ4.out; have := HK3.out; omega
            case rel => exact ⟨(x4_1), (x5_3), (by first | rfl | (simp; done) | (simp [*]; done)), H', ⟨by have := HK1.out; have := HJ4.out; have := HK3.out; omega⟩, ⟨by (with_reducible repeat (first | apply Kd.R_alloc | apply Kd.R_drewN | apply Kd.R_drew)); exact HO_4.out⟩, ⟨by repeat (first | (with_reducible first | exact HB.out | apply below_alloc | apply pw_below_drewN | apply below_drew1) | exact HB.out)⟩⟩
        ·rw [if_neg c9] at H
         have c9b0 : ((bt a0 x5_1) == 35) = false := beq_eq_false_iff_ne.mpr c9
         have c9b1 : ((bt a0 x5_1) != 35) = true := bne_iff_ne.mpr c9
         have HC14 := Aside0.mk H
         clear H
         go_upto_region 18 with (fail)
         go_cut [76] (fun v76 wc => ∃ (kq : Nat) (x76_13 : Bool), v76 = .bool x76_13 ∧ Aside0 (maquettelaw06_cut.j3 kq a0 x4_1 x5_1 x76_13 = some (r1, r2)) ∧ Aside0 (kq ≤ kj4) ∧ Aside0 (Kd.R k33 33 wc w.heap.size (fun _ => True) u4 x4_1) ∧ Aside0 (Below w.heap.size w wc))
         case first =>
          have H := HC14.out
          clear HC14
          by_cases c15 : (bt a0 x5_1) = 123
          ·rw [if_pos c15] at H
           have c15b0 : ((bt a0 x5_1) == 123) = true := beq_iff_eq.mpr c15
           have c15b1 : ((bt a0 x5_1) != 123) = false := bne_eq_false_iff_eq.mpr c15
           clear c15
           (first | rw [c15b0] | (simp only [i64_w, i32_w]; rw [c15b0]) | skip)
           have H' := Aside0.mk H
           clear H
           go_wp2
           go_meet
           case rel => exact ⟨_, (true), (by first | rfl | (simp; done) | (simp [*]; done)), H', ⟨by have := HK1.out; have := HJ4.out; first | omega | exact Nat.le_refl _⟩, ⟨by (with_reducible repeat (first | apply Kd.R_alloc | apply Kd.R_drewN | apply Kd.R_drew)); exact HO_4.out⟩, ⟨by repeat (first | (with_reducible first | exact HB.out | apply below_alloc | apply pw_below_drewN | apply below_drew1) | exact HB.out)⟩⟩
          ·rw [if_neg c15] at H
           have c15b0 : ((bt a0 x5_1) == 123) = false := beq_eq_false_iff_ne.mpr c15
           have c15b1 : ((bt a0 x5_1) != 123) = true := bne_iff_ne.mpr c15
           (first | rw [c15b0] | (simp only [i64_w, i32_w]; rw [c15b0]) | skip)
           by_cases c16 : (bt a0 x5_1) = 125
           ·rw [if_pos c16] at H
            have c16b0 : ((bt a0 x5_1) == 125) = true := beq_iff_eq.mpr c16
            have c16b1 : ((bt a0 x5_1) != 125) = false := bne_eq_false_iff_eq.mpr c16
            clear c16
            have H' := Aside0.mk H
            clear H
            go_wp2
            go_meet
            case rel => exact ⟨_, (true), (by first | rfl | (simp; done) | (simp [*]; done)), H', ⟨by have := HK1.out; have := HJ4.out; first | omega | exact Nat.le_refl _⟩, ⟨by (with_reducible repeat (first | apply Kd.R_alloc | apply Kd.R_drewN | apply Kd.R_drew)); exact HO_4.out⟩, ⟨by repeat (first | (with_reducible first | exact HB.out | apply below_alloc | apply pw_below_drewN | apply below_drew1) | exact HB.out)⟩⟩
           ·rw [if_neg c16] at H
            have c16b0 : ((bt a0 x5_1) == 125) = false := beq_eq_false_iff_ne.mpr c16
            have c16b1 : ((bt a0 x5_1) != 125) = true := bne_iff_ne.mpr c16
            have H' := Aside0.mk H
            clear H
            go_wp2
            go_meet
            case rel => exact ⟨_, (((bt a0 x5_1) == 59)), (by first | rfl | (simp; done) | (simp [*]; done)), H', ⟨by have := HK1.out; have := HJ4.out; first | omega | exact Nat.le_refl _⟩, ⟨by (with_reducible repeat (first | apply Kd.R_alloc | apply Kd.R_drewN | apply Kd.R_drew)); exact HO_4.out⟩, ⟨by repeat (first | (with_reducible first | exact HB.out | apply below_alloc | apply pw_below_drewN | apply below_drew1) | exact HB.out)⟩⟩
         case rest =>
          clear HC14
          try clear c1
          try clear p1
          try clear q1
          try clear hx1
          try clear c2
          try clear c2b0
          try clear p2 p2
          try clear c3
          try clear c3b0
          try clear p4 p4
          try clear q4 q4
          try clear hx4
          try clear c6
          try clear c6b0
          try clear c6b1
          try clear p6 p6
          try clear c7
          try clear c7b0
          try clear c7b1
          try clear c8
          try clear c9
          try clear c9b0
          try clear c9b1
          try clear c10
          try clear c10b0
          try clear c11
          try clear c11b0
          try clear p12 p12
          try clear q12 q12
          try clear hx12
          try clear c13
          try clear c13b0
          try clear c13b1
          try clear c15
          try clear c15b0
          try clear c15b1
          try clear c16
          try clear c16b0
          try clear c16b1
          obtain ⟨kq, x76_13, rfl, HA, HJ13, HO_4, HB⟩ := hcut
          cases kq with
          | zero => exact absurd HA.out (by simp [maquettelaw06_cut.j3])
          | succ kj13 =>
           have H := HA.out
           clear HA
           simp only [maquettelaw06_cut.j3] at H
           by_cases c17 : x76_13 = true
           ·subst c17
            have H1 : (if 0 ≤ x5_1 then (if x5_1 ≤ (wrap64 (x5_1 + 1)) then (if (wrap64 (x5_1 + 1)) ≤ (a0.size : Int) then (if x4_1.length < 2513169434916 then (maquettelaw06_cut.l0 kj13 a0 (x4_1 ++ [(⟨4, a0.extract (x5_1 : Int).toNat ((wrap64 (x5_1 + 1)) : Int).toNat, 0, (⟨0, 0⟩ : S31), x5_1⟩ : S33)]) (wrap64 (x5_1 + 1))) else (none)) else (none)) else (none)) else (none)) = some (r1, r2) := by rw [if_pos rfl] at H; exact H
            clear H
            have H := H1
            clear H1
            by_cases c18 : 0 ≤ x5_1
            ·rw [if_pos c18] at H
             have c18b0 := eq_true c18
             have c18b1 := decide_eq_true c18
             clear c18
             by_cases c19 : x5_1 ≤ (wrap64 (x5_1 + 1))
             ·rw [if_pos c19] at H
              have c19b0 := eq_true c19
              have c19b1 := decide_eq_true c19
              by_cases c20 : (wrap64 (x5_1 + 1)) ≤ (a0.size : Int)
              ·rw [if_pos c20] at H
               have c20b0 := eq_true c20
               have c20b1 := decide_eq_true c20
               by_cases c21 : x4_1.length < 2513169434916
               ·rw [if_pos c21] at H
                have LMc21 := Aside0.mk c21
                clear c21
                obtain ⟨y197, hy197⟩ : ∃ y_ : List (S33), y_ = (x4_1 ++ [(⟨4, a0.extract (x5_1 : Int).toNat ((wrap64 (x5_1 + 1)) : Int).toNat, 0, (⟨0, 0⟩ : S31), x5_1⟩ : S33)]) := ⟨_, rfl⟩
                replace H : (maquettelaw06_cut.l0 kj13 a0 y197 (wrap64 (x5_1 + 1))) = some (r1, r2) := by first | (rw [hy197]; with_reducible exact H) | (have H2_ := (Option.bind_some _ _).symm.trans H; rw [hy197]; with_reducible exact H2_) | (have H2_ := (Option.bind_some _ _).symm.trans H; with_reducible exact H2_) | with_reducible exact H | (rw [hy197]; exact H) | exact H
                have Ny197 := Aside0.mk hy197
                clear hy197
                have H' := Aside0.mk H
                clear H
                go_wp2_with (first | ((with_reducible refine gate_builtin (b := .append) (xs := #[.tmp 87, .tmp 95]) rfl ?_); at_builtin; refine Kd.R_append k33 (w0 := w) w.heap.size rfl (.tmp 87) (.tmp 95) 23 33 (.agg #[(.int .i64 0), (.string ⟨#[]⟩), (.int .i64 0), (.int .u32 0), (.int .i64 0), (.int .i64 0)]) 56 rfl Tryd.underlying23 info33 rfl (by decide) (by omega) u4 x4_1 (⟨4, a0.extract (x5_1 : Int).toNat ((wrap64 (x5_1 + 1)) : Int).toNat, 0, (⟨0, 0⟩ : S31), x5_1⟩ : S33) [.int .i64 4, .string (a0.extract (x5_1 : Int).toNat ((wrap64 (x5_1 + 1)) : Int).toNat), .int .i64 0, .int .u32 0, .int .i64 0, .int .i64 x5_1] (fun _ => True) (fun _ => False) rfl rfl ?aP (fun _ hk => hk.elim) ?aF ?aO ?aB ?aS ?aL ?_; (case aP => exact k33_mkM _ _ _ (⟨4, a0.extract (x5_1 : Int).toNat ((wrap64 (x5_1 + 1)) : Int).toNat, 0, (⟨0, 0⟩ : S31), x5_1⟩ : S33)); (case aB => exact bel); (case aF => exact (fun _ _ => trivial)); (case aO => exact (kR HO_4)); (case aS => exact (below_size bel)); (case aL => have := LMc21.out; omega); intro v198 w22 ho hb hg hat; rw [← Ny197.out] at ho; have HO199 := Aside0.mk ho; replace HB := Aside0.mk (hb); clear HO_4; clear ho hb hg hat))
                go_roundg kj13
                case measure => have := HK1.out; have := HJ4.out; have := HJ13.out; omega
                case rel => exact ⟨(y197), (wrap64 (x5_1 + 1)), (by first | rfl | (simp; done) | (simp [*]; done)), H', ⟨by have := HK1.out; have := HJ4.out; have := HJ13.out; omega⟩, ⟨by (with_reducible repeat (first | apply Kd.R_alloc | apply Kd.R_drewN | apply Kd.R_drew)); exact HO199.out⟩, ⟨by repeat (first | (with_reducible first | exact HB.out | apply below_alloc | apply pw_below_drewN | apply below_drew1) | exact HB.out)⟩⟩
               ·rw [if_neg c21] at H
                exact absurd H (by simp)
              ·rw [if_neg c20] at H
               exact absurd H (by simp)
             ·rw [if_neg c19] at H
              exact absurd H (by simp)
            ·rw [if_neg c18] at H
             exact absurd H (by simp)
           ·replace c17 := Bool.eq_false_iff.mpr c17
            subst c17
            have H1 : (maquettelaw06_cut.l2 kj13 a0 x4_1 x5_1 x5_1) = some (r1, r2) := by rw [if_neg (show ¬ (false = true) by decide)] at H; exact H
            clear H
            have H := H1
            clear H1
            have H' := Aside0.mk H
            clear H
            go_wp2
            go_loopg [7] kj13 (fun kq v7 w' => ∃ (x7_4 : Int), v7 = .int .i64 x7_4 ∧ Aside0 (maquettelaw06_cut.l2 kq a0 x4_1 x5_1 x7_4 = some (r1, r2)) ∧ Aside0 (kq ≤ kj13) ∧ Aside0 (Kd.R k33 33 w' w.heap.size (fun _ => True) u4 x4_1) ∧ Aside0 (Below w.heap.size w w'))
            case atStart => exact ⟨(x5_1), (by first | rfl | (simp; done) | (simp [*]; done)), H', ⟨Nat.le_refl _⟩, ⟨by (with_reducible repeat (first | apply Kd.R_alloc | apply Kd.R_drewN | apply Kd.R_drew)); exact HO_4.out⟩, ⟨by repeat (first | (with_reducible first | exact HB.out | apply below_alloc | apply pw_below_drewN | apply below_drew1) | exact HB.out)⟩⟩
            case round =>
             clear H'
             try clear c1
             try clear p1 p1
             try clear q1 q1
             try clear hx1
             try clear c2
             try clear c2b0
             try clear p2 p2
             try clear c3
             try clear c3b0
             try clear p4 p4
             try clear q4 q4
             try clear hx4
             try clear c6
             try clear c6b0
             try clear c6b1
             try clear p6 p6
             try clear c7
             try clear c7b0
             try clear c7b1
             try clear c8
             try clear c9
             try clear c9b0
             try clear c9b1
             try clear c10
             try clear c10b0
             try clear c11
             try clear c11b0
             try clear p12 p12
             try clear q12 q12
             try clear hx12
             try clear c13
             try clear c13b0
             try clear c13b1
             try clear c15
             try clear c15b0
             try clear c15b1
             try clear c16
             try clear c16b0
             try clear c16b1
             try clear c17
             try clear c18
             try clear c18b0
             try clear c18b1
             try clear c19
             try clear c19b0
             try clear c19b1
             try clear c20
             try clear c20b0
             try clear c20b1
             try clear c21
             obtain ⟨x7_4, rfl, HA, HK4, HO_4, HB⟩ := hrel
             cases gk with
             | zero => exact absurd HA.out (by simp [maquettelaw06_cut.l2])
             | succ k4 =>
              have H := HA.out
              clear HA
              simp only [maquettelaw06_cut.l2] at H
              by_cases c23 : x7_4 < (a0.size : Int)
              ·rw [if_pos c23] at H
               have c23b0 := decide_eq_true c23
               clear c23
               by_cases c24 : 0 ≤ x7_4
               ·rw [if_pos c24] at H
                have c24b0 := decide_eq_true c24
                clear c24
                replace H := Option.bind_eq_some_iff.mp H
                obtain ⟨t200, A260, H⟩ := H
                replace H : (if t200 = true then (maquettelaw06_cut.l2 k4 a0 x4_1 x5_1 (wrap64 (x7_4 + 1))) else (if 0 ≤ x5_1 then (if x5_1 ≤ x7_4 then (if x7_4 ≤ (a0.size : Int) then ((maquettelaw06_piece.f k4 (a0.extract (x5_1 : Int).toNat (x7_4 : Int).toNat)).bind fun bt201 => (if bt201.2.2.2.2.2.2 = true then (if x4_1.length < 2513169434916 then (maquettelaw06_cut.l0 k4 a0 (x4_1 ++ [(⟨bt201.1, bt201.2.1, bt201.2.2.1, (⟨bt201.2.2.2.1, bt201.2.2.2.2.1⟩ : S31), x5_1⟩ : S33)]) x7_4) else (none)) else (some (([] : List (S33)), x5_1)))) else (none)) else (none)) else (none))) = some (r1, r2) := H
                have A26 := Aside0.mk A260
                clear A260
                by_cases c27 : t200 = true
                ·subst c27
                 have H1 : (maquettelaw06_cut.l2 k4 a0 x4_1 x5_1 (wrap64 (x7_4 + 1))) = some (r1, r2) := by rw [if_pos rfl] at H; exact H
                 clear H
                 have H := H1
                 clear H1
                 have H' := Aside0.mk H
                 clear H
                 have p25 : 0 ≤ (x7_4 : Int) := of_decide_eq_true (by first | (with_reducible assumption) | assumption)
                 have q25 : x7_4 < (a0.size : Int) := of_decide_eq_true (by first | (with_reducible assumption) | assumption)
                 have hx25 := bt_at a0 x7_4
                 replace p25 := eq_true p25
                 replace q25 := eq_true q25
                 go_wp2_with (first | (go_at_call 18; (with_reducible refine (maquettelaw06_part.calls (bt a0 x7_4) true _ A26.out).mono ?_); rintro e w' ⟨rfl, ⟨nd, rfl⟩⟩))
                 go_roundg k4
                 case measure => have := HK1.out; have := HJ4.out; have := HJ13.out; have := HK4.out; omega
                 case rel => exact ⟨(wrap64 (x7_4 + 1)), (by first | rfl | (simp; done) | (simp [*]; done)), H', ⟨by have := HK1.out; have := HJ4.out; have := HJ13.out; have := HK4.out; omega⟩, ⟨by (with_reducible repeat (first | apply Kd.R_alloc | apply Kd.R_drewN | apply Kd.R_drew)); exact HO_4.out⟩, ⟨by repeat (first | (with_reducible first | exact HB.out | apply below_alloc | apply pw_below_drewN | apply below_drew1) | exact HB.out)⟩⟩
                ·replace c27 := Bool.eq_false_iff.mpr c27
                 subst c27
                 have H1 : (if 0 ≤ x5_1 then (if x5_1 ≤ x7_4 then (if x7_4 ≤ (a0.size : Int) then ((maquettelaw06_piece.f k4 (a0.extract (x5_1 : Int).toNat (x7_4 : Int).toNat)).bind fun bt201 => (if bt201.2.2.2.2.2.2 = true then (if x4_1.length < 2513169434916 then (maquettelaw06_cut.l0 k4 a0 (x4_1 ++ [(⟨bt201.1, bt201.2.1, bt201.2.2.1, (⟨bt201.2.2.2.1, bt201.2.2.2.2.1⟩ : S31), x5_1⟩ : S33)]) x7_4) else (none)) else (some (([] : List (S33)), x5_1)))) else (none)) else (none)) else (none)) = some (r1, r2) := by rw [if_neg (show ¬ (false = true) by decide)] at H; exact H
                 clear H
                 have H := H1
                 clear H1
                 by_cases c28 : 0 ≤ x5_1
                 ·rw [if_pos c28] at H
                  have c28b0 := eq_true c28
                  have c28b1 := decide_eq_true c28
                  clear c28
                  by_cases c29 : x5_1 ≤ x7_4
                  ·rw [if_pos c29] at H
                   have c29b0 := eq_true c29
                   have c29b1 := decide_eq_true c29
                   clear c29
                   by_cases c30 : x7_4 ≤ (a0.size : Int)
                   ·rw [if_pos c30] at H
                    have c30b0 := eq_true c30
                    have c30b1 := decide_eq_true c30
                    clear c30
                    replace H := Option.bind_eq_some_iff.mp H
                    obtain ⟨⟨t201, t202, t203, t204, t205, t206, t207⟩, A310, H⟩ := H
                    replace H : (if t207 = true then (if x4_1.length < 2513169434916 then (maquettelaw06_cut.l0 k4 a0 (x4_1 ++ [(⟨t201, t202, t203, (⟨t204, t205⟩ : S31), x5_1⟩ : S33)]) x7_4) else (none)) else (some (([] : List (S33)), x5_1))) = some (r1, r2) := H
                    have A31 := Aside0.mk A310
                    clear A310
                    by_cases c32 : t207 = true
                    ·subst c32
                     have H1 : (if x4_1.length < 2513169434916 then (maquettelaw06_cut.l0 k4 a0 (x4_1 ++ [(⟨t201, t202, t203, (⟨t204, t205⟩ : S31), x5_1⟩ : S33)]) x7_4) else (none)) = some (r1, r2) := by rw [if_pos rfl] at H; exact H
                     clear H
                     have H := H1
                     clear H1
                     by_cases c33 : x4_1.length < 2513169434916
                     ·rw [if_pos c33] at H
                      have LMc33 := Aside0.mk c33
                      clear c33
                      obtain ⟨y209, hy209⟩ : ∃ y_ : List (S33), y_ = (x4_1 ++ [(⟨t201, t202, t203, (⟨t204, t205⟩ : S31), x5_1⟩ : S33)]) := ⟨_, rfl⟩
                      replace H : (maquettelaw06_cut.l0 k4 a0 y209 x7_4) = some (r1, r2) := by first | (rw [hy209]; with_reducible exact H) | (have H2_ := (Option.bind_some _ _).symm.trans H; rw [hy209]; with_reducible exact H2_) | (have H2_ := (Option.bind_some _ _).symm.trans H; with_reducible exact H2_) | with_reducible exact H | (rw [hy209]; exact H) | exact H
                      have Ny209 := Aside0.mk hy209
                      clear hy209
                      have H' := Aside0.mk H
                      clear H
                      have p25 : 0 ≤ (x7_4 : Int) := of_decide_eq_true (by first | (with_reducible assumption) | assumption)
                      have q25 : x7_4 < (a0.size : Int) := of_decide_eq_true (by first | (with_reducible assumption) | assumption)
                      have hx25 := bt_at a0 x7_4
                      replace p25 := eq_true p25
                      replace q25 := eq_true q25
                      go_upto_region 12 with (first | (go_at_call 18; (with_reducible refine (maquettelaw06_part.calls (bt a0 x7_4) false _ A26.out).mono ?_); rintro e w' ⟨rfl, ⟨nd, rfl⟩⟩; (try (rw [drewN_self wr]; generalize hq_ : World.drewN wr _ = wr; replace HO_4 := dR hq_ HO_4; replace HB := bld (w := w) hq_; clear hq_))) | ((with_reducible refine gate_dst (N := 35) rfl ?_); refine gl (some 35) Tryd.func19 #[.string (a0.extract (x5_1 : Int).toNat (x7_4 : Int).toNat)] ?_; (with_reducible refine (maquettelaw06_piece.calls k4 (a0.extract (x5_1 : Int).toNat (x7_4 : Int).toNat) t201 t202 t203 t204 t205 t206 true _ A31.out (Go.Proofs.YthodilggomedgaaDoor.Inv.ivb hInv)).mono ?_); rintro e w34 ⟨rfl, hb⟩; refine ⟨_, rfl, ?_⟩; replace HO_4 := Aside0.mk (Kd.R_below (kR HO_4) hb); replace HB := bst hb; (try clear hb); (try clear hb2); (try clear hk); (try clear hi)) | ((with_reducible refine gate_dst (N := 8) rfl ?_); refine bx 8 (cs := #[.int .i64 0, .string (⟨#[]⟩ : ByteArray), .int .i64 0, .int .u32 0, .int .i64 0, .int .i64 0]) (t := 33) (h := ?_); intro gb208 hg w35 hbox hb; have BK208 := Aside0.mk hbox; have GW208 : Aside0 (w.heap.size ≤ gb208) := bge hg; have GE208 : Aside0 (w.heap.size ≤ gb208) := bge hg; replace HO_4 := Aside0.mk (Kd.R_below (Kd.R_elderB (kR HO_4) gb208 (Nat.le_of_eq hg.symm)) hb); replace HB := bst hb; clear hb hbox hg; obtain ⟨hcz36_0, hcz36_1, hcz36_2, hcz36_3, hcz36_4, hcz36_5, hfz36_0, hfz36_1, hfz36_2, hfz36_3, hfz36_4, hfz36_5⟩ := bc6 BK208))
                      refine wpGen ?_
                      intro w_ hw_
                      replace BK208 : Aside0 (w_.heap[gb208]? = some (.cells #[.int .i64 t201, .string t202, .int .i64 t203, .int .u32 t204, .int .i64 t205, .int .i64 x5_1] 33 (0, 0))) := ⟨by rw [hw_]; exact bkp BK208⟩
                      obtain ⟨ok_, hOn1, hOn2⟩ : ∃ ok_ : Nat → Prop, (∀ k_, ok_ k_ → k_ ≠ gb208) ∧ Kd.R k33 33 w_ w.heap.size ok_ u4 x4_1 := by rw [hw_]; exact ⟨_, fun _ hk => hk.2, (Kd.R_far (p := ⟨gb208, 5, none⟩) (Kd.R_far (p := ⟨gb208, 5, none⟩) (Kd.R_far (p := ⟨gb208, 4, none⟩) (Kd.R_far (p := ⟨gb208, 3, none⟩) (Kd.R_far (p := ⟨gb208, 2, none⟩) (Kd.R_far (p := ⟨gb208, 1, none⟩) (Kd.R_far (p := ⟨gb208, 0, none⟩) (Kd.R_mono HO_4.out (fun k_ hk => (⟨hk, hk.2⟩ : _ ∧ k_ ≠ gb208))) (fun _ hk => hk.2) (.int .i64 t201)) (fun _ hk => hk.2) (.string t202)) (fun _ hk => hk.2) (.int .i64 t203)) (fun _ hk => hk.2) (.int .u32 t204)) (fun _ hk => hk.2) (.int .i64 t205)) (fun _ hk => hk.2) (.int .i64 t206)) (fun _ hk => hk.2) (.int .i64 x5_1))⟩
                      replace HB : Aside0 (Below w.heap.size w w_) := ⟨by rw [hw_]; exact bel⟩
                      clear hw_
                      obtain ⟨hw_0, hw_1, hw_2, hw_3, hw_4, hw_5, hw_6, hw_7, hw_8, hw_9, hw_10, hw_11⟩ := bc6 BK208
                      go_wp2_with (((with_reducible refine gate_builtin (b := .append) (xs := #[.tmp 43, .tmp 45]) rfl ?_); at_builtin; refine Kd.R_append k33 (w0 := w) w.heap.size rfl (.tmp 43) (.tmp 45) 23 33 (.agg #[(.int .i64 0), (.string ⟨#[]⟩), (.int .i64 0), (.int .u32 0), (.int .i64 0), (.int .i64 0)]) 56 rfl Tryd.underlying23 info33 rfl (by decide) (by omega) u4 x4_1 (⟨t201, t202, t203, (⟨t204, t205⟩ : S31), x5_1⟩ : S33) [.int .i64 t201, .string t202, .int .i64 t203, .int .u32 t204, .int .i64 t205, .int .i64 x5_1] (fun k_ => k_ ≠ gb208) (fun _ => False) rfl (by first | (go_simp; done) | (go_simp; rfl)) ?aP (fun _ hk => hk.elim) ?aF ?aO ?aB ?aS ?aL ?_; (case aP => exact k33_mkM _ _ _ (⟨t201, t202, t203, (⟨t204, t205⟩ : S31), x5_1⟩ : S33)); (case aB => exact bel); (case aF => exact (fun k_ hk => Kd.freshB (g := gb208) (o := .cells #[.int .i64 t201, .string t202, .int .i64 t203, .int .u32 t204, .int .i64 t205, .int .i64 x5_1] 33 (0, 0)) (bkp BK208) k_ hk)); (case aO => exact Kd.R_mono hOn2 hOn1); (case aS => exact (below_size bel)); (case aL => have := LMc33.out; omega); intro v210 w37 ho hb hg hat; rw [← Ny209.out] at ho; have HO211 := Aside0.mk ho; replace BK208 := Aside0.mk (blk_grown (g := gb208) (o := .cells #[.int .i64 t201, .string t202, .int .i64 t203, .int .u32 t204, .int .i64 t205, .int .i64 x5_1] 33 (0, 0)) (bkp BK208) hg (Kd.R_away hOn2 hOn1)); replace HB := Aside0.mk (hb); clear HO_4; clear ho hb hg hat))
                      go_roundg k4
                      case measure => have := HK1.out; have := HJ4.out; have := HJ13.out; have := HK4.out; omega
                      case rel => exact ⟨(y209), (x7_4), (by first | rfl | (simp; done) | (simp [*]; done)), H', ⟨by have := HK1.out; have := HJ4.out; have := HJ13.out; have := HK4.out; omega⟩, ⟨by (with_reducible repeat (first | apply Kd.R_alloc | apply Kd.R_drewN | apply Kd.R_drew)); exact Kd.R_mono HO211.out (fun _ hk => trivial)⟩, ⟨by repeat (first | (with_reducible first | exact HB.out | apply below_alloc | apply pw_below_drewN | apply below_drew1 | refine below_set ?_ GE208.out) | exact HB.out)⟩⟩
                     ·rw [if_neg c33] at H
                      exact absurd H (by simp)
                    ·replace c32 := Bool.eq_false_iff.mpr c32
                     subst c32
                     have H1 : (some (([] : List (S33)), x5_1)) = some (r1, r2) := by rw [if_neg (show ¬ (false = true) by decide)] at H; exact H
                     clear H
                     have H := H1
                     clear H1
                     simp only [Option.some.injEq, Prod.mk.injEq] at H
                     obtain ⟨rfl, rfl⟩ := H
                     have p25 : 0 ≤ (x7_4 : Int) := of_decide_eq_true (by first | (with_reducible assumption) | assumption)
                     have q25 : x7_4 < (a0.size : Int) := of_decide_eq_true (by first | (with_reducible assumption) | assumption)
                     have hx25 := bt_at a0 x7_4
                     replace p25 := eq_true p25
                     replace q25 := eq_true q25
                     go_wp2_with (first | (go_at_call 18; (with_reducible refine (maquettelaw06_part.calls (bt a0 x7_4) false _ A26.out).mono ?_); rintro e w' ⟨rfl, ⟨nd, rfl⟩⟩; (try (rw [drewN_self wr]; generalize hq_ : World.drewN wr _ = wr; replace HO_4 := dR hq_ HO_4; replace HB := bld (w := w) hq_; clear hq_))) | ((with_reducible refine gate_dst (N := 35) rfl ?_); refine gl (some 35) Tryd.func19 #[.string (a0.extract (x5_1 : Int).toNat (x7_4 : Int).toNat)] ?_; (with_reducible refine (maquettelaw06_piece.calls k4 (a0.extract (x5_1 : Int).toNat (x7_4 : Int).toNat) t201 t202 t203 t204 t205 t206 false _ A31.out (Go.Proofs.YthodilggomedgaaDoor.Inv.ivb hInv)).mono ?_); rintro e w38 ⟨rfl, hb⟩; refine ⟨_, rfl, ?_⟩; replace HO_4 := Aside0.mk (Kd.R_below (kR HO_4) hb); replace HB := bst hb; (try clear hb); (try clear hb2); (try clear hk); (try clear hi)) | ((with_reducible refine gate_dst (N := 8) rfl ?_); refine bx 8 (cs := #[.int .i64 0, .string (⟨#[]⟩ : ByteArray), .int .i64 0, .int .u32 0, .int .i64 0, .int .i64 0]) (t := 33) (h := ?_); intro gb208 hg w39 hbox hb; have BK208 := Aside0.mk hbox; have GW208 : Aside0 (w.heap.size ≤ gb208) := bge hg; have GE208 : Aside0 (w.heap.size ≤ gb208) := bge hg; replace HO_4 := Aside0.mk (Kd.R_below (Kd.R_elderB (kR HO_4) gb208 (Nat.le_of_eq hg.symm)) hb); replace HB := bst hb; clear hb hbox hg; obtain ⟨hcz40_0, hcz40_1, hcz40_2, hcz40_3, hcz40_4, hcz40_5, hfz40_0, hfz40_1, hfz40_2, hfz40_3, hfz40_4, hfz40_5⟩ := bc6 BK208))
                     go_ret2
                     exact ⟨_, by first | rfl | (simp [errW_none, errW_some] <;> rfl) | (simp [*, errW_none, errW_some] <;> rfl), by first | exact Kd.R_nil _ _ _ _ _ | exact Kd.N_nil _ _ _ _ _ | exact Kd.V_nil _ _ _ _ _ | exact Kd.Q_nil _ _ _ _ _ | exact Kd.S_nil _ _ _ _ _, by repeat (first | (with_reducible first | exact HB.out | apply below_alloc | apply pw_below_drewN | apply below_drew1 | refine below_set ?_ GE208.out) | exact HB.out)⟩
                   ·rw [if_neg c30] at H
                    exact absurd H (by simp)
                  ·rw [if_neg c29] at H
                   exact absurd H (by simp)
                 ·rw [if_neg c28] at H
                  exact absurd H (by simp)
               ·rw [if_neg c24] at H
                exact absurd H (by simp)
              ·rw [if_neg c23] at H
               have c23b0 := decide_eq_false c23
               clear c23
               by_cases c41 : 0 ≤ x5_1
               ·rw [if_pos c41] at H
                have c41b0 := eq_true c41
                have c41b1 := decide_eq_true c41
                clear c41
                by_cases c42 : x5_1 ≤ x7_4
                ·rw [if_pos c42] at H
                 have c42b0 := eq_true c42
                 have c42b1 := decide_eq_true c42
                 clear c42
                 by_cases c43 : x7_4 ≤ (a0.size : Int)
                 ·rw [if_pos c43] at H
                  have c43b0 := eq_true c43
                  have c43b1 := decide_eq_true c43
                  clear c43
                  replace H := Option.bind_eq_some_iff.mp H
                  obtain ⟨⟨t212, t213, t214, t215, t216, t217, t218⟩, A440, H⟩ := H
                  replace H : (if t218 = true then (if x4_1.length < 2513169434916 then (maquettelaw06_cut.l0 k4 a0 (x4_1 ++ [(⟨t212, t213, t214, (⟨t215, t216⟩ : S31), x5_1⟩ : S33)]) x7_4) else (none)) else (some (([] : List (S33)), x5_1))) = some (r1, r2) := H
                  have A44 := Aside0.mk A440
                  clear A440
                  by_cases c45 : t218 = true
                  ·subst c45
                   have H1 : (if x4_1.length < 2513169434916 then (maquettelaw06_cut.l0 k4 a0 (x4_1 ++ [(⟨t212, t213, t214, (⟨t215, t216⟩ : S31), x5_1⟩ : S33)]) x7_4) else (none)) = some (r1, r2) := by rw [if_pos rfl] at H; exact H
                   clear H
                   have H := H1
                   clear H1
                   by_cases c46 : x4_1.length < 2513169434916
                   ·rw [if_pos c46] at H
                    have LMc46 := Aside0.mk c46
                    clear c46
                    obtain ⟨y220, hy220⟩ : ∃ y_ : List (S33), y_ = (x4_1 ++ [(⟨t212, t213, t214, (⟨t215, t216⟩ : S31), x5_1⟩ : S33)]) := ⟨_, rfl⟩
                    replace H : (maquettelaw06_cut.l0 k4 a0 y220 x7_4) = some (r1, r2) := by first | (rw [hy220]; with_reducible exact H) | (have H2_ := (Option.bind_some _ _).symm.trans H; rw [hy220]; with_reducible exact H2_) | (have H2_ := (Option.bind_some _ _).symm.trans H; with_reducible exact H2_) | with_reducible exact H | (rw [hy220]; exact H) | exact H
                    have Ny220 := Aside0.mk hy220
                    clear hy220
                    have H' := Aside0.mk H
                    clear H
                    go_upto_region 12 with (first | ((with_reducible refine gate_dst (N := 35) rfl ?_); refine gl (some 35) Tryd.func19 #[.string (a0.extract (x5_1 : Int).toNat (x7_4 : Int).toNat)] ?_; (with_reducible refine (maquettelaw06_piece.calls k4 (a0.extract (x5_1 : Int).toNat (x7_4 : Int).toNat) t212 t213 t214 t215 t216 t217 true _ A44.out (Go.Proofs.YthodilggomedgaaDoor.Inv.ivb hInv)).mono ?_); rintro e w47 ⟨rfl, hb⟩; refine ⟨_, rfl, ?_⟩; replace HO_4 := Aside0.mk (Kd.R_below (kR HO_4) hb); replace HB := bst hb; (try clear hb); (try clear hb2); (try clear hk); (try clear hi)) | ((with_reducible refine gate_dst (N := 8) rfl ?_); refine bx 8 (cs := #[.int .i64 0, .string (⟨#[]⟩ : ByteArray), .int .i64 0, .int .u32 0, .int .i64 0, .int .i64 0]) (t := 33) (h := ?_); intro gb219 hg w48 hbox hb; have BK219 := Aside0.mk hbox; have GW219 : Aside0 (w.heap.size ≤ gb219) := bge hg; have GE219 : Aside0 (w.heap.size ≤ gb219) := bge hg; replace HO_4 := Aside0.mk (Kd.R_below (Kd.R_elderB (kR HO_4) gb219 (Nat.le_of_eq hg.symm)) hb); replace HB := bst hb; clear hb hbox hg; obtain ⟨hcz49_0, hcz49_1, hcz49_2, hcz49_3, hcz49_4, hcz49_5, hfz49_0, hfz49_1, hfz49_2, hfz49_3, hfz49_4, hfz49_5⟩ := bc6 BK219))
                    refine wpGen ?_
                    intro w_ hw_
                    replace BK219 : Aside0 (w_.heap[gb219]? = some (.cells #[.int .i64 t212, .string t213, .int .i64 t214, .int .u32 t215, .int .i64 t216, .int .i64 x5_1] 33 (0, 0))) := ⟨by rw [hw_]; exact bkp BK219⟩
                    obtain ⟨ok_, hOn1, hOn2⟩ : ∃ ok_ : Nat → Prop, (∀ k_, ok_ k_ → k_ ≠ gb219) ∧ Kd.R k33 33 w_ w.heap.size ok_ u4 x4_1 := by rw [hw_]; exact ⟨_, fun _ hk => hk.2, (Kd.R_far (p := ⟨gb219, 5, none⟩) (Kd.R_far (p := ⟨gb219, 5, none⟩) (Kd.R_far (p := ⟨gb219, 4, none⟩) (Kd.R_far (p := ⟨gb219, 3, none⟩) (Kd.R_far (p := ⟨gb219, 2, none⟩) (Kd.R_far (p := ⟨gb219, 1, none⟩) (Kd.R_far (p := ⟨gb219, 0, none⟩) (Kd.R_mono HO_4.out (fun k_ hk => (⟨hk, hk.2⟩ : _ ∧ k_ ≠ gb219))) (fun _ hk => hk.2) (.int .i64 t212)) (fun _ hk => hk.2) (.string t213)) (fun _ hk => hk.2) (.int .i64 t214)) (fun _ hk => hk.2) (.int .u32 t215)) (fun _ hk => hk.2) (.int .i64 t216)) (fun _ hk => hk.2) (.int .i64 t217)) (fun _ hk => hk.2) (.int .i64 x5_1))⟩
                    replace HB : Aside0 (Below w.heap.size w w_) := ⟨by rw [hw_]; exact bel⟩
                    clear hw_
                    obtain ⟨hw_0, hw_1, hw_2, hw_3, hw_4, hw_5, hw_6, hw_7, hw_8, hw_9, hw_10, hw_11⟩ := bc6 BK219
                    go_wp2_with (((with_reducible refine gate_builtin (b := .append) (xs := #[.tmp 43, .tmp 45]) rfl ?_); at_builtin; refine Kd.R_append k33 (w0 := w) w.heap.size rfl (.tmp 43) (.tmp 45) 23 33 (.agg #[(.int .i64 0), (.string ⟨#[]⟩), (.int .i64 0), (.int .u32 0), (.int .i64 0), (.int .i64 0)]) 56 rfl Tryd.underlying23 info33 rfl (by decide) (by omega) u4 x4_1 (⟨t212, t213, t214, (⟨t215, t216⟩ : S31), x5_1⟩ : S33) [.int .i64 t212, .string t213, .int .i64 t214, .int .u32 t215, .int .i64 t216, .int .i64 x5_1] (fun k_ => k_ ≠ gb219) (fun _ => False) rfl (by first | (go_simp; done) | (go_simp; rfl)) ?aP (fun _ hk => hk.elim) ?aF ?aO ?aB ?aS ?aL ?_; (case aP => exact k33_mkM _ _ _ (⟨t212, t213, t214, (⟨t215, t216⟩ : S31), x5_1⟩ : S33)); (case aB => exact bel); (case aF => exact (fun k_ hk => Kd.freshB (g := gb219) (o := .cells #[.int .i64 t212, .string t213, .int .i64 t214, .int .u32 t215, .int .i64 t216, .int .i64 x5_1] 33 (0, 0)) (bkp BK219) k_ hk)); (case aO => exact Kd.R_mono hOn2 hOn1); (case aS => exact (below_size bel)); (case aL => have := LMc46.out; omega); intro v221 w50 ho hb hg hat; rw [← Ny220.out] at ho; have HO222 := Aside0.mk ho; replace BK219 := Aside0.mk (blk_grown (g := gb219) (o := .cells #[.int .i64 t212, .string t213, .int .i64 t214, .int .u32 t215, .int .i64 t216, .int .i64 x5_1] 33 (0, 0)) (bkp BK219) hg (Kd.R_away hOn2 hOn1)); replace HB := Aside0.mk (hb); clear HO_4; clear ho hb hg hat))
                    go_roundg k4
                    case measure => have := HK1.out; have := HJ4.out; have := HJ13.out; have := HK4.out; omega
                    case rel => exact ⟨(y220), (x7_4), (by first | rfl | (simp; done) | (simp [*]; done)), H', ⟨by have := HK1.out; have := HJ4.out; have := HJ13.out; have := HK4.out; omega⟩, ⟨by (with_reducible repeat (first | apply Kd.R_alloc | apply Kd.R_drewN | apply Kd.R_drew)); exact Kd.R_mono HO222.out (fun _ hk => trivial)⟩, ⟨by repeat (first | (with_reducible first | exact HB.out | apply below_alloc | apply pw_below_drewN | apply below_drew1 | refine below_set ?_ GE219.out) | exact HB.out)⟩⟩
                   ·rw [if_neg c46] at H
                    exact absurd H (by simp)
                  ·replace c45 := Bool.eq_false_iff.mpr c45
                   subst c45
                   have H1 : (some (([] : List (S33)), x5_1)) = some (r1, r2) := by rw [if_neg (show ¬ (false = true) by decide)] at H; exact H
                   clear H
                   have H := H1
                   clear H1
                   simp only [Option.some.injEq, Prod.mk.injEq] at H
                   obtain ⟨rfl, rfl⟩ := H
                   go_wp2_with (first | ((with_reducible refine gate_dst (N := 35) rfl ?_); refine gl (some 35) Tryd.func19 #[.string (a0.extract (x5_1 : Int).toNat (x7_4 : Int).toNat)] ?_; (with_reducible refine (maquettelaw06_piece.calls k4 (a0.extract (x5_1 : Int).toNat (x7_4 : Int).toNat) t212 t213 t214 t215 t216 t217 false _ A44.out (Go.Proofs.YthodilggomedgaaDoor.Inv.ivb hInv)).mono ?_); rintro e w51 ⟨rfl, hb⟩; refine ⟨_, rfl, ?_⟩; replace HO_4 := Aside0.mk (Kd.R_below (kR HO_4) hb); replace HB := bst hb; (try clear hb); (try clear hb2); (try clear hk); (try clear hi)) | ((with_reducible refine gate_dst (N := 8) rfl ?_); refine bx 8 (cs := #[.int .i64 0, .string (⟨#[]⟩ : ByteArray), .int .i64 0, .int .u32 0, .int .i64 0, .int .i64 0]) (t := 33) (h := ?_); intro gb219 hg w52 hbox hb; have BK219 := Aside0.mk hbox; have GW219 : Aside0 (w.heap.size ≤ gb219) := bge hg; have GE219 : Aside0 (w.heap.size ≤ gb219) := bge hg; replace HO_4 := Aside0.mk (Kd.R_below (Kd.R_elderB (kR HO_4) gb219 (Nat.le_of_eq hg.symm)) hb); replace HB := bst hb; clear hb hbox hg; obtain ⟨hcz53_0, hcz53_1, hcz53_2, hcz53_3, hcz53_4, hcz53_5, hfz53_0, hfz53_1, hfz53_2, hfz53_3, hfz53_4, hfz53_5⟩ := bc6 BK219))
                   go_ret2
                   exact ⟨_, by first | rfl | (simp [errW_none, errW_some] <;> rfl) | (simp [*, errW_none, errW_some] <;> rfl), by first | exact Kd.R_nil _ _ _ _ _ | exact Kd.N_nil _ _ _ _ _ | exact Kd.V_nil _ _ _ _ _ | exact Kd.Q_nil _ _ _ _ _ | exact Kd.S_nil _ _ _ _ _, by repeat (first | (with_reducible first | exact HB.out | apply below_alloc | apply pw_below_drewN | apply below_drew1 | refine below_set ?_ GE219.out) | exact HB.out)⟩
                 ·rw [if_neg c43] at H
                  exact absurd H (by simp)
                ·rw [if_neg c42] at H
                 exact absurd H (by simp)
               ·rw [if_neg c41] at H
                exact absurd H (by simp)
    ·rw [if_neg c3] at H
     exact absurd H (by simp)
   ·rw [if_neg c2] at H
    have c2b0 := decide_eq_false c2
    clear c2
    by_cases c54 : x4_1.length < 2513169434916
    ·rw [if_pos c54] at H
     have LMc54 := Aside0.mk c54
     clear c54
     obtain ⟨y194, hy194⟩ : ∃ y_ : List (S33), y_ = (x4_1 ++ [(⟨0, (⟨#[]⟩ : ByteArray), 0, (⟨0, 0⟩ : S31), (a0.size : Int)⟩ : S33)]) := ⟨_, rfl⟩
     replace H : (some (y194, (-1))) = some (r1, r2) := by first | (rw [hy194]; with_reducible exact H) | (have H2_ := (Option.bind_some _ _).symm.trans H; rw [hy194]; with_reducible exact H2_) | (have H2_ := (Option.bind_some _ _).symm.trans H; with_reducible exact H2_) | with_reducible exact H | (rw [hy194]; exact H) | exact H
     have Ny194 := Aside0.mk hy194
     clear hy194
     simp only [Option.some.injEq, Prod.mk.injEq] at H
     obtain ⟨rfl, rfl⟩ := H
     go_wp2_with (first | ((with_reducible refine gate_builtin (b := .append) (xs := #[.tmp 99, .tmp 103]) rfl ?_); at_builtin; refine Kd.R_append k33 (w0 := w) w.heap.size rfl (.tmp 99) (.tmp 103) 23 33 (.agg #[(.int .i64 0), (.string ⟨#[]⟩), (.int .i64 0), (.int .u32 0), (.int .i64 0), (.int .i64 0)]) 56 rfl Tryd.underlying23 info33 rfl (by decide) (by omega) u4 x4_1 (⟨0, (⟨#[]⟩ : ByteArray), 0, (⟨0, 0⟩ : S31), (a0.size : Int)⟩ : S33) [.int .i64 0, .string (⟨#[]⟩ : ByteArray), .int .i64 0, .int .u32 0, .int .i64 0, .int .i64 (a0.size : Int)] (fun _ => True) (fun _ => False) rfl rfl ?aP (fun _ hk => hk.elim) ?aF ?aO ?aB ?aS ?aL ?_; (case aP => exact k33_mkM _ _ _ (⟨0, (⟨#[]⟩ : ByteArray), 0, (⟨0, 0⟩ : S31), (a0.size : Int)⟩ : S33)); (case aB => exact bel); (case aF => exact (fun _ _ => trivial)); (case aO => exact (kR HO_4)); (case aS => exact (below_size bel)); (case aL => have := LMc54.out; omega); intro v195 w55 ho hb hg hat; rw [← Ny194.out] at ho; have HO196 := Aside0.mk ho; replace HB := Aside0.mk (hb); clear HO_4; clear ho hb hg hat))
     go_ret2
     exact ⟨_, by first | rfl | (simp [errW_none, errW_some] <;> rfl) | (simp [*, errW_none, errW_some] <;> rfl), by (with_reducible repeat (first | apply Kd.R_alloc | apply Kd.R_drewN | apply Kd.R_drew)); exact HO196.out, by repeat (first | (with_reducible first | exact HB.out | apply below_alloc | apply pw_below_drewN | apply below_drew1) | exact HB.out)⟩
    ·rw [if_neg c54] at H
     exact absurd H (by simp)

end Go.Proofs.YthodilggomedgaaDoor.PTb
