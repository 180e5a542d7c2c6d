/- Plain law: PrefixLess as the printer tells it answers true. -/
import Derived.Test.YtkbjjamaneiijaaDoorPreL
import Derived.Test.YtkbjjamaneiijaaDoorPPrex13
namespace Go.Proofs.YtkbjjamaneiijaaDoor.PreL
open Go.RowKit Go.Proofs.YtkbjjamaneiijaaDoor.PPre Go.Proofs.YtkbjjamaneiijaaDoorW.PrintWords Go.Proofs.YtkbjjamaneiijaaDoor.PfxL
set_option linter.unusedVariables false
theorem lless (a b c d : Int) : maquettelaw05_PrefixLess.f 40 a b c d = some true := by
  unfold maquettelaw05_PrefixLess.f
  rw [awake_ok, Option.bind_some, if_pos rfl, less_f, Option.bind_some]
  unfold Ls
  by_cases h : a < c
  · rw [if_pos h]; simp [h]
  · rw [if_neg h]
    by_cases h1 : a = c
    · rw [if_pos h1]; simp [h1]
    · rw [if_neg h1]; simp [h, h1]
end Go.Proofs.YtkbjjamaneiijaaDoor.PreL
