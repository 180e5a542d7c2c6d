-- Written by wip/xprint.py of this work: the printer of the kit, with contracts of this work beside it, shortened.
import Derived.Test.YtbclogifkifaaaaDoorShort
import Derived.Test.YtbclogifkifaaaaDoorPPrex0
namespace Go.Proofs.YtbclogifkifaaaaDoor.PPre
open Go.RowKit Go.Proofs.YtbclogifkifaaaaDoor.Short Go.Proofs.YtbclogifkifaaaaDoorW.PrintWords Go.Proofs.YtbclogifkifaaaaDoorW.PrintLast Go.Proofs.YtbclogifkifaaaaDoorW.PrintMore
attribute [local go_sem] max2_int min2_int max_two min_two max_three min_three max_four min_four   -- for this text's walks alone
set_option linter.unusedVariables false
set_option linter.unusedSimpArgs false

/-! ### maquettelaw05_bit: function 15 -/
def maquettelaw05_bit.f (a0 : Int) (a1 : Int) : Option (Int) := if 0 ≤ (wrap64 (31 - a1)) then (some (Go.bits .and .u32 (shr .u32 a0 (wrap64 (31 - a1))) 1)) else (none)
set_option maxHeartbeats 8000000 in
set_option maxRecDepth 100000 in
theorem maquettelaw05_bit.calls (a0 : Int) (a1 : Int) (r : Int) (w : World) (h : maquettelaw05_bit.f a0 a1 = some r) :
  Calls Tryd.prog 15 #[.int .u32 a0, .int .i64 a1] w fun e w' => e = .returned (.int .u32 r) ∧ Drawn0 w w' := by
 have H : (if 0 ≤ (wrap64 (31 - a1)) then (some (Go.bits .and .u32 (shr .u32 a0 (wrap64 (31 - a1))) 1)) else (none)) = some r := h
 clear h
 obtain ⟨ji3, hji3⟩ : ∃ j_ : Int, (wrap64 (31 - a1)) = j_ := ⟨_, rfl⟩
 replace H : (if 0 ≤ (ji3) then (some (Go.bits .and .u32 (shr .u32 a0 (ji3)) 1)) else (none)) = some r := by first | (rw [hji3] at H; exact H) | (simp only [hji3] at H ⊢; exact H)
 have hji3w : (IntKind.i64.wrap (31 - a1)) = ji3 := (i64_w _).trans hji3
 by_cases c4 : 0 ≤ (ji3)
 ·rw [if_pos c4] at H
  have c4b0 := eq_true c4
  have c4b1 := decide_eq_true c4
  clear c4
  obtain ⟨ji5, hji5⟩ : ∃ j_ : Int, (shr .u32 a0 (ji3)) = j_ := ⟨_, rfl⟩
  replace H : (some (Go.bits .and .u32 (ji5) 1)) = some r := by first | (rw [hji5] at H; exact H) | (simp only [hji5] at H ⊢; exact H)
  have hji5_ : (a0 / 2 ^ min (ji3).toNat 32) = ji5 := hji5
  have hji5z : (ji3) ≤ 32 → (a0 / 2 ^ (ji3).toNat) = ji5 := shr_small hji5
  obtain rfl := Option.some.inj H
  go_enter Tryd.func15, Tryd.ntmps15
  go_wp2
  go_ret
  exact ⟨by first | rfl | (simp; done) | (simp only [← hji3, ← hji5] <;> (first | rfl | simp)) | (simp [*]; done), by repeat (first | exact Drawn0.refl _ | apply Drawn0.step)⟩
 ·rw [if_neg c4] at H
  exact absurd H (by simp)

end Go.Proofs.YtbclogifkifaaaaDoor.PPre
