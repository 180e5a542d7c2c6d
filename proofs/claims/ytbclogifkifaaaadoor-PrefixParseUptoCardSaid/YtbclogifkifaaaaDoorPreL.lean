/- Plain laws: PrefixLess, PrefixEnds as the printer tells them answer true. -/
import Derived.Test.YtbclogifkifaaaaDoorPfxL
import Derived.Test.YtbclogifkifaaaaDoorPPrex11
namespace Go.Proofs.YtbclogifkifaaaaDoor.PreL
open Go.RowKit Go.Proofs.YtbclogifkifaaaaDoor.PPre Go.Proofs.YtbclogifkifaaaaDoorW.PrintWords Go.Proofs.YtbclogifkifaaaaDoor.PfxL
set_option linter.unusedVariables false
set_option maxRecDepth 100000 in
theorem awake_ok : maquettelaw05_awake.f 40 = some true := by decide +kernel
theorem awake_k : ∀ k, maquettelaw05_awake.f (k + 40) = some true
  | 0 => awake_ok
  | k + 1 => maquettelaw05_awake.mono _ _ (awake_k k)
theorem awake_at {k : Nat} (h : 40 ≤ k) : maquettelaw05_awake.f k = some true := by
  have := awake_k (k - 40)
  rwa [show k - 40 + 40 = k from by omega] at this
end Go.Proofs.YtbclogifkifaaaaDoor.PreL
