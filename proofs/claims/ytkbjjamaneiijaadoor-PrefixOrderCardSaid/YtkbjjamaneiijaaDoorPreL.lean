/- Plain laws: PrefixLess, PrefixEnds as the printer tells them answer true. -/
import Derived.Test.YtkbjjamaneiijaaDoorPfxL
import Derived.Test.YtkbjjamaneiijaaDoorPPrex11
import Derived.Test.YtkbjjamaneiijaaDoorPPrex12
namespace Go.Proofs.YtkbjjamaneiijaaDoor.PreL
open Go.RowKit Go.Proofs.YtkbjjamaneiijaaDoor.PPre Go.Proofs.YtkbjjamaneiijaaDoorW.PrintWords Go.Proofs.YtkbjjamaneiijaaDoor.PfxL
set_option linter.unusedVariables false
set_option maxRecDepth 100000 in
theorem awake_ok : maquettelaw05_awake.f 40 = some true := by decide +kernel
theorem awake_k : ∀ k, maquettelaw05_awake.f (k + 40) = some true
  | 0 => awake_ok
  | k + 1 => maquettelaw05_awake.mono _ _ (awake_k k)
theorem awake_at {k : Nat} (h : 40 ≤ k) : maquettelaw05_awake.f k = some true := by
  have := awake_k (k - 40)
  rwa [show k - 40 + 40 = k from by omega] at this
def Ls (a b c d : Int) : Prop := a < c ∨ (a = c ∧ b < d)
instance (a b c d : Int) : Decidable (Ls a b c d) := by unfold Ls; infer_instance
theorem less_f (a b c d : Int) : prefix_Less.f a b c d = some (decide (Ls a b c d)) := by
  unfold prefix_Less.f Ls
  by_cases h : a < c
  · rw [if_pos h]; simp [h]
  · rw [if_neg h]
    by_cases h1 : a = c
    · rw [if_pos h1]; simp [h1]
    · rw [if_neg h1]; simp [h, h1]
end Go.Proofs.YtkbjjamaneiijaaDoor.PreL
