/- Texts of this work, joined: PNtx2, PNtx15. -/
import Derived.Test.YtnhdfjcecgjlgaaPNtx0
import Derived.Test.YtnhdfjcecgjlgaaJ6
import Derived.Test.YtnhdfjcecgjlgaaShort
import Derived.Test.YtnhdfjcecgjlgaaSh2
section
namespace Go.Proofs.Ytnhdfjcecgjlgaa.PNt
open Go.RowKit Go.Proofs.YtnhdfjcecgjlgaaW.PrintWords Go.Proofs.YtnhdfjcecgjlgaaW.PrintLast Go.Proofs.YtnhdfjcecgjlgaaW.PrintMore
attribute [local go_sem] max2_int min2_int max_two min_two max_three min_three max_four min_four
set_option linter.unusedVariables false
set_option linter.unusedSimpArgs false
theorem eqA81 (d : Nat) (w : World) (x0 y0 : Bool) (x1 y1 : Int) (x2 y2 : Int) (x3 y3 : Int) (x4 y4 : Int) (x5 y5 : Bool) (x6 y6 : Int) (x7 y7 : Int) (x8 y8 : Int) (x9 y9 : Int) :
    (Op.equalIn (d + 3) 81 (.agg #[.bool x0, .int .u32 x1, .int .i64 x2, .int .u8 x3, .int .u8 x4, .bool x5, .int .u8 x6, .int .u8 x7, .int .i64 x8, .int .i64 x9]) (.agg #[.bool y0, .int .u32 y1, .int .i64 y2, .int .u8 y3, .int .u8 y4, .bool y5, .int .u8 y6, .int .u8 y7, .int .i64 y8, .int .i64 y9])).run Try.prog w = .ok (x0 == y0 && ((x1 == y1 && (x2 == y2)) && (x3 == y3 && (x4 == y4 && (x5 == y5 && (x6 == y6 && (x7 == y7 && (x8 == y8 && (x9 == y9))))))))) w := by
  refine eqA_of Try.underlying81 (by kernel_rfl) ?_; refine eqf_cons (by rfl) (by go_simp; rfl) (by go_simp; rfl) (by go_simp) ?_; refine eqf_cons (by rfl) (by go_simp) (by go_simp) (eqA36 (d + 0) w _ _ _ _) ?_; refine eqf_cons (by rfl) (by go_simp; rfl) (by go_simp; rfl) (by go_simp) ?_; refine eqf_cons (by rfl) (by go_simp; rfl) (by go_simp; rfl) (by go_simp) ?_; refine eqf_cons (by rfl) (by go_simp; rfl) (by go_simp; rfl) (by go_simp) ?_; refine eqf_cons (by rfl) (by go_simp; rfl) (by go_simp; rfl) (by go_simp) ?_; refine eqf_cons (by rfl) (by go_simp; rfl) (by go_simp; rfl) (by go_simp) ?_; refine eqf_cons (by rfl) (by go_simp; rfl) (by go_simp; rfl) (by go_simp) ?_; exact eqf_last (by rfl) (by go_simp; rfl) (by go_simp; rfl) (by go_simp)
end Go.Proofs.Ytnhdfjcecgjlgaa.PNt
end
section
namespace Go.Proofs.Ytnhdfjcecgjlgaa.PNt
open Go.RowKit Go.Proofs.Ytnhdfjcecgjlgaa.Short Go.Proofs.YtnhdfjcecgjlgaaW.PrintWords Go.Proofs.YtnhdfjcecgjlgaaW.PrintLast Go.Proofs.YtnhdfjcecgjlgaaW.PrintMore
attribute [local go_sem] max2_int min2_int max_two min_two max_three min_three max_four min_four
set_option linter.unusedVariables false
set_option linter.unusedSimpArgs false
attribute [local go_sem high] eqA81
def maquettelaw13_SameClauses.l0 : Nat → List (S81) → List (S81) → Int → Int → Option (Bool)
 | 0, _, _, _, _ => none
 | k + 1, x0, x1, x12, x13 => if x13 < x12 then (if 0 ≤ x13 then (if x13 < (x0.length : Int) then (if x13 < (x1.length : Int) then (if (!(((rd_T81 x0 x13).f0) == ((rd_T81 x1 x13).f0)) || ((!(((rd_T81 x0 x13).f1.f0) == ((rd_T81 x1 x13).f1.f0)) || (!(((rd_T81 x0 x13).f1.f1) == ((rd_T81 x1 x13).f1.f1)))) || (!(((rd_T81 x0 x13).f2) == ((rd_T81 x1 x13).f2)) || (!(((rd_T81 x0 x13).f3) == ((rd_T81 x1 x13).f3)) || (!(((rd_T81 x0 x13).f4) == ((rd_T81 x1 x13).f4)) || (!(((rd_T81 x0 x13).f5) == ((rd_T81 x1 x13).f5)) || (!(((rd_T81 x0 x13).f6) == ((rd_T81 x1 x13).f6)) || (!(((rd_T81 x0 x13).f7) == ((rd_T81 x1 x13).f7)) || (!(((rd_T81 x0 x13).f8) == ((rd_T81 x1 x13).f8))))))))))) = true then (some false) else (maquettelaw13_SameClauses.l0 k x0 x1 x12 (wrap64 (x13 + 1)))) else (none)) else (none)) else (none)) else (some true)
def maquettelaw13_SameClauses.f (k : Nat) (l0 : List (S81)) (l1 : List (S81)) : Option (Bool) := if (l0.length : Int) = (l1.length : Int) then (maquettelaw13_SameClauses.l0 k l0 l1 (l0.length : Int) 0) else (some false)
set_option maxHeartbeats 8000000 in
set_option maxRecDepth 100000 in
theorem maquettelaw13_SameClauses.calls (k : Nat) (A0 : Option Addr) (c0 : Nat) (l0 : List (S81)) (A1 : Option Addr) (c1 : Nat) (l1 : List (S81)) (r : Bool) (w : World) (hr0 : Kd.C k81 w A0 l0.length l0) (hc0 : l0.length ≤ c0) (hr1 : Kd.C k81 w A1 l1.length l1) (hc1 : l1.length ≤ c1) (h : maquettelaw13_SameClauses.f k l0 l1 = some r) :
  Calls Try.prog 22 #[.slice A0 l0.length c0, .slice A1 l1.length c1] w fun e w' => e = .returned (.bool r) ∧ Drawn0 w w' := by
 have hu81 := Try.underlying81; have HR0 := A_ hr0; have HC0 := A_ hc0; clear hr0 hc0; have HR1 := A_ hr1; have HC1 := A_ hc1; clear hr1 hc1; unfold maquettelaw13_SameClauses.f at h; have H := h; clear h; by_cases c3 : (l0.length : Int) = (l1.length : Int)
 ·rw [if_pos c3] at H
  have c3b0 : ((l0.length : Int) == (l1.length : Int)) = true := beq_iff_eq.mpr c3; have c3b1 : ((l0.length : Int) != (l1.length : Int)) = false := bne_eq_false_iff_eq.mpr c3; (have c3b2 : (l0.length == l1.length) = true := by first | simpa using c3 | (simp at c3 ⊢; omega)); clear c3; have H' := A_ H; clear H; go_enter Try.func22, Try.ntmps22; go_wp2; (repeat (go_quiet (fail); try go_wp2)); go_loopg [13] k (fun kq v13 w' => ∃ (x13_1 : Int), v13 = .int .i64 x13_1 ∧ Aside0 (maquettelaw13_SameClauses.l0 kq l0 l1 (l0.length : Int) x13_1 = some r) ∧ Aside0 (kq ≤ k) ∧ Drawn0 w w')
  case atStart => exact ⟨(0), eqs, H', ⟨Nat.le_refl _⟩, by repeat (first | exact Drawn0.refl _ | apply Drawn0.step)⟩
  case round =>
   clear H'; (try clear c1); (try clear c2); (try clear p2); (try clear c3); (try clear c3b0); (try clear c3b1); (try clear c3b2); obtain ⟨x13_1, rfl, HA, HK1, ⟨m1, rfl⟩⟩ := hrel
   cases gk with
   | zero => exact absurd HA.out (by simp [maquettelaw13_SameClauses.l0])
   | succ k1 =>
    have H := HA.out; clear HA; simp only [maquettelaw13_SameClauses.l0] at H; by_cases c4 : x13_1 < (l0.length : Int)
    ·rw [if_pos c4] at H
     have c4b0 := decide_eq_true c4; clear c4; by_cases c5 : 0 ≤ x13_1
     ·rw [if_pos c5] at H
      have c5b0 := decide_eq_true c5; clear c5; by_cases c6 : x13_1 < (l0.length : Int)
      ·rw [if_pos c6] at H
       have c6b0 := decide_eq_true c6; clear c6; by_cases c7 : x13_1 < (l1.length : Int)
       ·rw [if_pos c7] at H
        have c7b0 := decide_eq_true c7; clear c7; by_cases c8 : (!(((rd_T81 l0 x13_1).f0) == ((rd_T81 l1 x13_1).f0)) || ((!(((rd_T81 l0 x13_1).f1.f0) == ((rd_T81 l1 x13_1).f1.f0)) || (!(((rd_T81 l0 x13_1).f1.f1) == ((rd_T81 l1 x13_1).f1.f1)))) || (!(((rd_T81 l0 x13_1).f2) == ((rd_T81 l1 x13_1).f2)) || (!(((rd_T81 l0 x13_1).f3) == ((rd_T81 l1 x13_1).f3)) || (!(((rd_T81 l0 x13_1).f4) == ((rd_T81 l1 x13_1).f4)) || (!(((rd_T81 l0 x13_1).f5) == ((rd_T81 l1 x13_1).f5)) || (!(((rd_T81 l0 x13_1).f6) == ((rd_T81 l1 x13_1).f6)) || (!(((rd_T81 l0 x13_1).f7) == ((rd_T81 l1 x13_1).f7)) || (!(((rd_T81 l0 x13_1).f8) == ((rd_T81 l1 x13_1).f8))))))))))) = true
        ·rw [if_pos c8] at H
         have c8b0 : (!(((rd_T81 l0 x13_1).f0) == ((rd_T81 l1 x13_1).f0)) || ((!(((rd_T81 l0 x13_1).f1.f0) == ((rd_T81 l1 x13_1).f1.f0)) || (!(((rd_T81 l0 x13_1).f1.f1) == ((rd_T81 l1 x13_1).f1.f1)))) || (!(((rd_T81 l0 x13_1).f2) == ((rd_T81 l1 x13_1).f2)) || (!(((rd_T81 l0 x13_1).f3) == ((rd_T81 l1 x13_1).f3)) || (!(((rd_T81 l0 x13_1).f4) == ((rd_T81 l1 x13_1).f4)) || (!(((rd_T81 l0 x13_1).f5) == ((rd_T81 l1 x13_1).f5)) || (!(((rd_T81 l0 x13_1).f6) == ((rd_T81 l1 x13_1).f6)) || (!(((rd_T81 l0 x13_1).f7) == ((rd_T81 l1 x13_1).f7)) || (!(((rd_T81 l0 x13_1).f8) == ((rd_T81 l1 x13_1).f8))))))))))) = true := c8; clear c8; obtain rfl := Option.some.inj H; have p204 : 0 ≤ (x13_1 : Int) := odt; have q204 : x13_1 < (l0.length : Int) := odt; obtain ⟨ad204, e204, hx204_0, hx204_1, hx204_2, hx204_3, hx204_4, hx204_5, hx204_6, hx204_7, hx204_8, hx204_9⟩ := at_T81 HR0.out x13_1 p204 q204; cases e204; replace p204 := eq_true p204; replace q204 := eq_true q204; have p205 : 0 ≤ (x13_1 : Int) := odt; have q205 : x13_1 < (l1.length : Int) := odt; obtain ⟨ad205, e205, hx205_0, hx205_1, hx205_2, hx205_3, hx205_4, hx205_5, hx205_6, hx205_7, hx205_8, hx205_9⟩ := at_T81 HR1.out x13_1 p205 q205; cases e205; replace p205 := eq_true p205; replace q205 := eq_true q205; go_wp2; (repeat (go_quiet (fail); try go_wp2)); go_ret; exact ⟨by first | rfl | (simp; done) | (simp [*]; done), by repeat (first | exact Drawn0.refl _ | apply Drawn0.step)⟩
        ·rw [if_neg c8] at H
         (have c8b0 : (!(((rd_T81 l0 x13_1).f0) == ((rd_T81 l1 x13_1).f0)) || ((!(((rd_T81 l0 x13_1).f1.f0) == ((rd_T81 l1 x13_1).f1.f0)) || (!(((rd_T81 l0 x13_1).f1.f1) == ((rd_T81 l1 x13_1).f1.f1)))) || (!(((rd_T81 l0 x13_1).f2) == ((rd_T81 l1 x13_1).f2)) || (!(((rd_T81 l0 x13_1).f3) == ((rd_T81 l1 x13_1).f3)) || (!(((rd_T81 l0 x13_1).f4) == ((rd_T81 l1 x13_1).f4)) || (!(((rd_T81 l0 x13_1).f5) == ((rd_T81 l1 x13_1).f5)) || (!(((rd_T81 l0 x13_1).f6) == ((rd_T81 l1 x13_1).f6)) || (!(((rd_T81 l0 x13_1).f7) == ((rd_T81 l1 x13_1).f7)) || (!(((rd_T81 l0 x13_1).f8) == ((rd_T81 l1 x13_1).f8))))))))))) = false := by simpa using c8); clear c8; have H' := A_ H; clear H; have p204 : 0 ≤ (x13_1 : Int) := odt; have q204 : x13_1 < (l0.length : Int) := odt; obtain ⟨ad204, e204, hx204_0, hx204_1, hx204_2, hx204_3, hx204_4, hx204_5, hx204_6, hx204_7, hx204_8, hx204_9⟩ := at_T81 HR0.out x13_1 p204 q204; cases e204; replace p204 := eq_true p204; replace q204 := eq_true q204; have p205 : 0 ≤ (x13_1 : Int) := odt; have q205 : x13_1 < (l1.length : Int) := odt; obtain ⟨ad205, e205, hx205_0, hx205_1, hx205_2, hx205_3, hx205_4, hx205_5, hx205_6, hx205_7, hx205_8, hx205_9⟩ := at_T81 HR1.out x13_1 p205 q205; cases e205; replace p205 := eq_true p205; replace q205 := eq_true q205; go_wp2; (repeat (go_quiet (fail); try go_wp2)); go_roundg k1
         case measure => have := HK1.out; omega
         case rel => exact ⟨(wrap64 (x13_1 + 1)), eqs, H', ⟨by have := HK1.out; omega⟩, by repeat (first | exact Drawn0.refl _ | apply Drawn0.step)⟩
       ·rw [if_neg c7] at H
        exact absurd H (by simp)
      ·rw [if_neg c6] at H
       exact absurd H (by simp)
     ·rw [if_neg c5] at H
      exact absurd H (by simp)
    ·rw [if_neg c4] at H
     have c4b0 := decide_eq_false c4; clear c4; obtain rfl := Option.some.inj H; go_wp2; (repeat (go_quiet (fail); try go_wp2)); go_ret; exact ⟨by first | rfl | (simp; done) | (simp [*]; done), by repeat (first | exact Drawn0.refl _ | apply Drawn0.step)⟩
 ·rw [if_neg c3] at H
  have c3b0 : ((l0.length : Int) == (l1.length : Int)) = false := beq_eq_false_iff_ne.mpr c3; have c3b1 : ((l0.length : Int) != (l1.length : Int)) = true := bne_iff_ne.mpr c3; (have c3b2 : (l0.length == l1.length) = false := by first | simpa using c3 | (simp at c3 ⊢; omega)); obtain rfl := Option.some.inj H; go_enter Try.func22, Try.ntmps22; go_wp2; (repeat (go_quiet (fail); try go_wp2)); go_ret; exact ⟨by first | rfl | (simp; done) | (simp [*]; done), by repeat (first | exact Drawn0.refl _ | apply Drawn0.step)⟩
end Go.Proofs.Ytnhdfjcecgjlgaa.PNt
end
