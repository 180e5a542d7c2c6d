/- Plain law: what law 23's example tells. -/
import Derived.Test.YtkhbpjhlekldpaaLiftP
import Derived.Test.YtkhbpjhlekldpaaPLiftx17
namespace Go.Proofs.Ytkhbpjhlekldpaa.LiftQ
open Go.RowKit Go.Proofs.Ytkhbpjhlekldpaa.PLift Go.Proofs.YtkhbpjhlekldpaaW.PrintWords Go.Proofs.Ytkhbpjhlekldpaa.LiftP
set_option linter.unusedVariables false
set_option maxRecDepth 100000 in
theorem awake_ok : maquettelaw23_awake.f 12 = some true := by decide +kernel
theorem awake_k : ∀ k, maquettelaw23_awake.f (k + 12) = some true
  | 0 => awake_ok
  | k + 1 => maquettelaw23_awake.mono _ _ (awake_k k)
theorem awake_at {k : Nat} (h : 12 ≤ k) : maquettelaw23_awake.f k = some true := by
  have := awake_k (k - 12)
  rwa [show k - 12 + 12 = k from by omega] at this
theorem same_refl (x : S64) (hx : x.f2.length < 17592186044416) (k : Nat) (hk : x.f2.length + 2 ≤ k) : lift_Same.f k x.f0 x.f1 x.f2 x.f0 x.f1 x.f2 = some true := by
  rw [same_f _ _ _ _ _ _ (by omega) k hk]
  simp
end Go.Proofs.Ytkhbpjhlekldpaa.LiftQ
