/- Plain law: PrefixOrder as the printer tells it answers true. -/
import Derived.Test.YtkbjjamaneiijaaDoorPreL
import Derived.Test.YtkbjjamaneiijaaDoorPPrex17
namespace Go.Proofs.YtkbjjamaneiijaaDoor.PreL
open Go.RowKit Go.Proofs.YtkbjjamaneiijaaDoor.PPre Go.Proofs.YtkbjjamaneiijaaDoorW.PrintWords Go.Proofs.YtkbjjamaneiijaaDoor.PfxL
set_option linter.unusedVariables false
def makeOk (n : Nat) : Bool := match maquettelaw05_Make.f 40 (n : Int) with
  | some p => decide (0 ≤ p.1 ∧ p.1 < 4294967296)
  | none => false
set_option maxRecDepth 100000 in
theorem make_all : ((List.range 256).all makeOk) = true := by decide +kernel
theorem make_at {n : Int} (h0 : 0 ≤ n) (h1 : n ≤ 255) : ∃ a b, maquettelaw05_Make.f 40 n = some (a, b) ∧ 0 ≤ a ∧ a < 4294967296 := by
  have h := List.all_eq_true.1 make_all n.toNat (List.mem_range.2 (by omega))
  unfold makeOk at h
  rw [Int.toNat_of_nonneg h0] at h
  cases e : maquettelaw05_Make.f 40 n with
  | none => rw [e] at h; cases h
  | some p =>
    rw [e] at h
    have := of_decide_eq_true h
    exact ⟨p.1, p.2, rfl, this.1, this.2⟩
theorem ls_irr (a b : Int) : ¬ Ls a b a b := by unfold Ls; omega
theorem ls_trans {a b c d e f : Int} (h1 : Ls a b c d) (h2 : Ls c d e f) : Ls a b e f := by unfold Ls at *; omega
theorem ls_line (a b c d : Int) : (!(a == c) || !(b == d)) = (decide (Ls a b c d) || decide (Ls c d a b)) := by
  by_cases h : a = c ∧ b = d
  · obtain ⟨rfl, rfl⟩ := h
    simp [ls_irr]
  · have e1 : (decide (Ls a b c d) || decide (Ls c d a b)) = true := by
      rw [Bool.or_eq_true, decide_eq_true_eq, decide_eq_true_eq]
      unfold Ls
      omega
    rw [e1]
    by_cases h1 : a = c
    · have h2 : b ≠ d := fun q => h ⟨h1, q⟩
      simp [h1, h2]
    · simp [h1]
theorem cov_le {a b c d : Int} (h0 : 0 ≤ a) (h1 : a < 4294967296) (h2 : 0 ≤ c) (h3 : c < 4294967296) (h : Cov a b c d) : ¬ Ls c d a b := by
  obtain ⟨_, _, l, e⟩ := h
  have := and_le (bv c) (mk b)
  rw [e] at this
  unfold bv at this
  rw [BitVec.toNat_ofInt, BitVec.toNat_ofInt] at this
  unfold Ls
  omega
theorem j1_true (k : Nat) (a b c d : Int) (h0 : 0 ≤ a) (h1 : a < 4294967296) (h2 : 0 ≤ c) (h3 : c < 4294967296) : maquettelaw05_PrefixOrder.j1 (k + 1) false a b c d = some true := by
  rw [maquettelaw05_PrefixOrder.j1, if_neg (by simp), less_f, less_f, cov_f _ _ _ _ h0 h1, ls_line]
  simp only [Option.bind_some]
  have hC := cov_le (d := d) (b := b) h0 h1 h2 h3
  by_cases hL : Ls a b c d
  · by_cases hK : Cov a b c d
    · simp [hL, hK, hC hK]
    · simp [hL, hK]
  · by_cases hK : Cov a b c d
    · simp [hL, hK, hC hK]
    · simp [hL, hK]
theorem j0_true (k : Nat) (a b c d e f : Int) (h0 : 0 ≤ a) (h1 : a < 4294967296) (h2 : 0 ≤ c) (h3 : c < 4294967296) : maquettelaw05_PrefixOrder.j0 (k + 2) false a b c d e f = some true := by
  rw [maquettelaw05_PrefixOrder.j0, if_neg (by simp)]
  simp only [less_f, Option.bind_some, decide_eq_false (ls_irr a b), j1_true k a b c d h0 h1 h2 h3]
  by_cases hL : Ls a b c d
  · by_cases hM : Ls c d e f
    · simp [hL, hM, ls_trans hL hM]
    · simp [hL, hM]
  · simp [hL]
theorem lord (x y z : Int) (hx0 : 0 ≤ x) (hx1 : x ≤ 255) (hy0 : 0 ≤ y) (hy1 : y ≤ 255) (hz0 : 0 ≤ z) (hz1 : z ≤ 255) : maquettelaw05_PrefixOrder.f 40 x y z = some true := by
  obtain ⟨a, b, e1, a0, a1⟩ := make_at hx0 hx1
  obtain ⟨c, d, e2, c0, c1⟩ := make_at hy0 hy1
  obtain ⟨e, f, e3, g0, g1⟩ := make_at hz0 hz1
  unfold maquettelaw05_PrefixOrder.f
  rw [awake_ok, Option.bind_some, if_pos rfl, e1, Option.bind_some, e2, Option.bind_some, e3, Option.bind_some]
  have J := j0_true 38 a b c d e f a0 a1 c0 c1
  simp only [cov_f _ _ _ _ a0 a1, cov_f _ _ _ _ c0 c1, Option.bind_some]
  have key : ∀ q, (Cov a b c d → Cov c d a b → q = (!(a == c) || !(b == d))) → q = false ∨ ¬ (Cov a b c d ∧ Cov c d a b) := by
    intro q hq
    by_cases h : Cov a b c d ∧ Cov c d a b
    · left
      obtain ⟨p1, p2⟩ := cov_anti h.1 h.2
      rw [hq h.1 h.2, bv_inj a0 a1 c0 c1 p1, p2]
      simp
    · exact Or.inr h
  have hE : Cov a b c d → Cov c d a b → (!(a == c) || !(b == d)) = false := by
    intro p q
    obtain ⟨p1, p2⟩ := cov_anti p q
    rw [bv_inj a0 a1 c0 c1 p1, p2]
    simp
  by_cases hA : Cov a b c d
  · by_cases hB : Cov c d e f
    · have hT := cov_trans hA hB
      by_cases hD : Cov c d a b
      · simp only [decide_eq_true hA, decide_eq_true hB, decide_eq_true hT, decide_eq_true hD, if_true, hE hA hD]
        exact J
      · simp only [decide_eq_true hA, decide_eq_true hB, decide_eq_true hT, decide_eq_false hD, if_true, Bool.false_eq_true, if_false]
        exact J
    · by_cases hD : Cov c d a b
      · simp only [decide_eq_true hA, decide_eq_false hB, decide_eq_true hD, if_true, Bool.false_eq_true, if_false, hE hA hD]
        exact J
      · simp only [decide_eq_true hA, decide_eq_false hB, decide_eq_false hD, if_true, Bool.false_eq_true, if_false]
        exact J
  · simp only [decide_eq_false hA, Bool.false_eq_true, if_false]
    exact J
end Go.Proofs.YtkbjjamaneiijaaDoor.PreL
