/- Plain law: LiftSame as the printer tells it answers true. -/
import Derived.Test.YtkhbpjhlekldpaaLiftA
import Derived.Test.YtkhbpjhlekldpaaPLiftx20
namespace Go.Proofs.Ytkhbpjhlekldpaa.LiftQ
open Go.RowKit Go.Proofs.Ytkhbpjhlekldpaa.PLift Go.Proofs.YtkhbpjhlekldpaaW.PrintWords Go.Proofs.Ytkhbpjhlekldpaa.LiftP
set_option linter.unusedVariables false
theorem same_end (a0 a1 b0 b1 : Bool) (l m : List Int) (hb : l.length < 9000000000000000000) (k : Nat) (hk : l.length + 2 ≤ k) (x5 : Bool) (h : x5 = decide (a0 = b0 ∧ a1 = b1 ∧ l = m)) :
    ((lift_Same.f k a0 a1 l b0 b1 m).bind fun t238 => (if (t238 == x5) = true then ((lift_Same.f k a0 a1 l a0 a1 l).bind fun t239 => (if t239 = true then ((lift_Same.f k a0 a1 l a0 (!a1) l).bind fun t240 => (some (!t240))) else (some false))) else (some false))) = some true := by
  rw [same_f _ _ _ _ _ _ hb k hk, same_f _ _ _ _ _ _ hb k hk, same_f _ _ _ _ _ _ hb k hk, h]
  cases a1 <;> simp
theorem lsame_l0 (a0 a1 b0 b1 : Bool) (l m : List Int) (hb : l.length < 9000000000000000000) : ∀ d k (i : Nat), i + d = l.length → d + l.length + 2 < k →
    maquettelaw23_LiftSame.l0 k (decide (a0 = b0 ∧ a1 = b1 ∧ l.length = m.length ∧ l.take i = m.take i)) (i : Int) a0 a1 l b0 b1 m = some true
  | d, k, i, h1, h2 => by
    obtain ⟨k, rfl⟩ : ∃ q, k = q + 1 := ⟨k - 1, by omega⟩
    rw [maquettelaw23_LiftSame.l0]
    by_cases hE : a0 = b0 ∧ a1 = b1 ∧ l.length = m.length ∧ l.take i = m.take i
    · rw [decide_eq_true hE, if_pos rfl]
      obtain ⟨e0, e1, e2, e3⟩ := hE
      match d, h1, h2 with
      | 0, h1, h2 =>
        rw [if_neg (by omega)]
        refine same_end _ _ _ _ _ _ hb k (by omega) _ ?_
        rw [List.take_of_length_le (by omega), List.take_of_length_le (by omega)] at e3
        simp [e0, e1, e3]
      | d + 1, h1, h2 =>
        have hi : i < l.length := by omega
        have hj : i < m.length := by omega
        have ew : wrap64 ((i : Int) + 1) = ((i + 1 : Nat) : Int) := by rw [w64 (by omega) (by omega)]; omega
        rw [if_pos (by omega), if_pos (by omega), if_pos (by omega), rd_nat l i hi, rd_nat m i hj, ew]
        have ih := lsame_l0 a0 a1 b0 b1 l m hb d k (i + 1) (by omega) (by omega)
        have : (l[i] == m[i]) = decide (a0 = b0 ∧ a1 = b1 ∧ l.length = m.length ∧ l.take (i + 1) = m.take (i + 1)) := by
          rw [List.take_succ_eq_append_getElem hi, List.take_succ_eq_append_getElem hj, e3]
          generalize m.take i = M
          generalize l[i] = x
          generalize m[i] = y
          simp [e0, e1, e2]
          by_cases h : x = y <;> simp [h]
        rw [this]
        exact ih
    · rw [decide_eq_false hE, if_neg (by simp)]
      refine same_end _ _ _ _ _ _ hb k (by omega) _ ?_
      symm
      apply decide_eq_false
      rintro ⟨q0, q1, q2⟩
      exact hE ⟨q0, q1, by rw [q2], by rw [q2]⟩
theorem lsame (a0 a1 b0 b1 : Bool) (l m : List Int) (hb : l.length < 9000000000000000000) : ∃ k, maquettelaw23_LiftSame.f k a0 a1 l b0 b1 m = some true := by
  refine ⟨2 * l.length + 20, ?_⟩
  unfold maquettelaw23_LiftSame.f
  rw [awake_at (by omega), Option.bind_some, if_pos rfl]
  have key : ∀ x5, x5 = decide (a0 = b0 ∧ a1 = b1 ∧ l.length = m.length) → maquettelaw23_LiftSame.j0 (2 * l.length + 20) x5 a0 a1 l b0 b1 m = some true := by
    intro x5 h
    rw [show 2 * l.length + 20 = (2 * l.length + 19) + 1 from rfl, maquettelaw23_LiftSame.j0]
    have := lsame_l0 a0 a1 b0 b1 l m hb l.length (2 * l.length + 19) 0 (by omega) (by omega)
    rw [h]
    simpa using this
  by_cases h0 : a0 = b0
  · rw [if_pos (by simp [h0])]
    by_cases h1 : a1 = b1
    · rw [if_pos (by simp [h1])]
      refine key _ ?_
      simp only [h0, h1, true_and]
      by_cases h2 : l.length = m.length
      · simp [h2]
      · rw [decide_eq_false h2]
        simpa using fun h => h2 (by omega)
    · rw [if_neg (by simpa using h1)]
      exact key _ (by simp [h1])
  · rw [if_neg (by simpa using h0)]
    exact key _ (by simp [h0])
end Go.Proofs.Ytkhbpjhlekldpaa.LiftQ
