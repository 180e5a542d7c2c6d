/- Plain law: PrefixEnds as the printer tells it answers true. -/
import Derived.Test.YtkbjjamaneiijaaDoorPreL
import Derived.Test.YtkbjjamaneiijaaDoorPPrex15
namespace Go.Proofs.YtkbjjamaneiijaaDoor.PreL
open Go.RowKit Go.Proofs.YtkbjjamaneiijaaDoor.PPre Go.Proofs.YtkbjjamaneiijaaDoorW.PrintWords Go.Proofs.YtkbjjamaneiijaaDoor.PfxL
set_option linter.unusedVariables false
theorem may_one (a : Int) : May a 32 := by
  refine ⟨by decide, by decide, ?_⟩
  rw [mk_full]
  simp
theorem may_all : May 0 0 := by decide
theorem cov_one {a c d : Int} (h0 : 0 ≤ a) (h1 : a < 4294967296) (h2 : 0 ≤ c) (h3 : c < 4294967296) : Cov a 32 c d ↔ (c = a ∧ d = 32) := by
  constructor
  · rintro ⟨_, m, l, e⟩
    have : d = 32 := by have := m.2.1; omega
    refine ⟨?_, this⟩
    rw [mk_full, BitVec.and_allOnes] at e
    exact bv_inj h2 h3 h0 h1 e
  · rintro ⟨rfl, rfl⟩
    exact cov_refl (may_one c)
theorem cov_all {c d : Int} : Cov 0 0 c d ↔ May c d := by
  constructor
  · exact fun h => h.2.1
  · intro h
    refine ⟨may_all, h, h.1, ?_⟩
    rw [mk_zero]
    simp [bv]
theorem cov_self {c d : Int} : Cov c d c d ↔ May c d := ⟨fun h => h.1, cov_refl⟩
theorem lends (a b x : Int) (h0 : 0 ≤ a) (h1 : a < 4294967296) (h2 : 0 ≤ x) (h3 : x < 4294967296) : maquettelaw05_PrefixEnds.f 40 a b x = some true := by
  unfold maquettelaw05_PrefixEnds.f
  rw [awake_ok, Option.bind_some, if_pos rfl, may_f, Option.bind_some, decide_eq_true (may_one x), if_pos rfl, may_f, Option.bind_some, decide_eq_true may_all]
  rw [show (40 : Nat) = 39 + 1 from rfl, maquettelaw05_PrefixEnds.j0, if_neg (by simp), cov_f _ _ _ _ h2 h3, Option.bind_some]
  have e1 : (decide (Cov x 32 a b) == (a == x && b == 32)) = true := by
    have e0 : decide (Cov x 32 a b) = decide (a = x ∧ b = 32) := decide_eq_decide.2 (cov_one h2 h3 h0 h1)
    rw [e0]
    by_cases p : a = x <;> by_cases q : b = 32 <;> simp [p, q]
  have e2 : decide (Cov 0 0 a b) = decide (May a b) := decide_eq_decide.2 cov_all
  have e3 : decide (Cov a b a b) = decide (May a b) := decide_eq_decide.2 cov_self
  rw [if_pos e1, cov_f _ _ _ _ (by decide) (by decide), Option.bind_some, may_f, Option.bind_some, e2, if_pos (by simp), cov_f _ _ _ _ h0 h1, Option.bind_some, Option.bind_some, e3]
  simp
end Go.Proofs.YtkbjjamaneiijaaDoor.PreL
