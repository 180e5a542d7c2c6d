/- Texts of this work, joined: PreL, PPrex19. -/
import Derived.Test.YtkbjjamaneiijaaDoorPfxL
import Derived.Test.YtkbjjamaneiijaaDoorPPrex11
import Derived.Test.YtkbjjamaneiijaaDoorPPrex12
import Derived.Test.YtkbjjamaneiijaaDoorShort
import Derived.Test.YtkbjjamaneiijaaDoorPPrex0
section
namespace Go.Proofs.YtkbjjamaneiijaaDoor.PreL
open Go.RowKit Go.Proofs.YtkbjjamaneiijaaDoor.PPre Go.Proofs.YtkbjjamaneiijaaDoorW.PrintWords Go.Proofs.YtkbjjamaneiijaaDoor.PfxL
set_option linter.unusedVariables false
set_option maxRecDepth 100000 in
theorem awake_ok : maquettelaw05_awake.f 40 = some true := by decide +kernel
theorem awake_k : ∀ k, maquettelaw05_awake.f (k + 40) = some true
  | 0 => awake_ok
  | k + 1 => maquettelaw05_awake.mono _ _ (awake_k k)
theorem awake_at {k : Nat} (h : 40 ≤ k) : maquettelaw05_awake.f k = some true := by
  have := awake_k (k - 40)
  rwa [show k - 40 + 40 = k from by omega] at this
def Ls (a b c d : Int) : Prop := a < c ∨ (a = c ∧ b < d)
instance (a b c d : Int) : Decidable (Ls a b c d) := by unfold Ls; infer_instance
theorem less_f (a b c d : Int) : prefix_Less.f a b c d = some (decide (Ls a b c d)) := by
  unfold prefix_Less.f Ls
  by_cases h : a < c
  · rw [if_pos h]; simp [h]
  · rw [if_neg h]
    by_cases h1 : a = c
    · rw [if_pos h1]; simp [h1]
    · rw [if_neg h1]; simp [h, h1]
end Go.Proofs.YtkbjjamaneiijaaDoor.PreL
end
section
namespace Go.Proofs.YtkbjjamaneiijaaDoor.PPre
open Go.RowKit Go.Proofs.YtkbjjamaneiijaaDoor.Short Go.Proofs.YtkbjjamaneiijaaDoorW.PrintWords Go.Proofs.YtkbjjamaneiijaaDoorW.PrintLast Go.Proofs.YtkbjjamaneiijaaDoorW.PrintMore
attribute [local go_sem] max2_int min2_int max_two min_two max_three min_three max_four min_four   -- for this text's walks alone
set_option linter.unusedVariables false
set_option linter.unusedSimpArgs false

/-! ### maquettelaw05_bit: function 23 -/
def maquettelaw05_bit.f (a0 : Int) (a1 : Int) : Option (Int) := if 0 ≤ (wrap64 (31 - a1)) then (some (Go.bits .and .u32 (shr .u32 a0 (wrap64 (31 - a1))) 1)) else (none)
set_option maxHeartbeats 8000000 in
set_option maxRecDepth 100000 in
theorem maquettelaw05_bit.calls (a0 : Int) (a1 : Int) (r : Int) (w : World) (h : maquettelaw05_bit.f a0 a1 = some r) :
  Calls Tryd.prog 23 #[.int .u32 a0, .int .i64 a1] w fun e w' => e = .returned (.int .u32 r) ∧ Drawn0 w w' := by
 have H : (if 0 ≤ (wrap64 (31 - a1)) then (some (Go.bits .and .u32 (shr .u32 a0 (wrap64 (31 - a1))) 1)) else (none)) = some r := h
 clear h
 obtain ⟨ji3, hji3⟩ : ∃ j_ : Int, (wrap64 (31 - a1)) = j_ := ⟨_, rfl⟩
 replace H : (if 0 ≤ (ji3) then (some (Go.bits .and .u32 (shr .u32 a0 (ji3)) 1)) else (none)) = some r := by first | (rw [hji3] at H; exact H) | (simp only [hji3] at H ⊢; exact H)
 have hji3w : (IntKind.i64.wrap (31 - a1)) = ji3 := (i64_w _).trans hji3
 by_cases c4 : 0 ≤ (ji3)
 ·rw [if_pos c4] at H
  have c4b0 := eq_true c4
  have c4b1 : decide (0 ≤ (ji3)) = true := decide_eq_true c4
  clear c4
  obtain ⟨ji5, hji5⟩ : ∃ j_ : Int, (shr .u32 a0 (ji3)) = j_ := ⟨_, rfl⟩
  replace H : (some (Go.bits .and .u32 (ji5) 1)) = some r := by first | (rw [hji5] at H; exact H) | (simp only [hji5] at H ⊢; exact H)
  have hji5_ : (a0 / 2 ^ min (ji3).toNat 32) = ji5 := hji5
  have hji5z : (ji3) ≤ 32 → (a0 / 2 ^ (ji3).toNat) = ji5 := shr_small hji5
  obtain rfl := Option.some.inj H
  go_enter Tryd.func23, Tryd.ntmps23
  go_wp2
  go_ret
  exact ⟨by first | rfl | (simp; done) | (simp only [← hji3, ← hji5] <;> (first | rfl | simp)) | (simp [*]; done), by repeat (first | exact Drawn0.refl _ | apply Drawn0.step)⟩
 ·rw [if_neg c4] at H
  exact absurd H (by simp)

end Go.Proofs.YtkbjjamaneiijaaDoor.PPre
end
