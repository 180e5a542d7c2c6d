/- Plain laws of lift's functions ans the printer tells them: Up, Same. -/
import Derived.Test.YtkhbpjhlekldpaaPLiftx2
import Derived.Test.YtkhbpjhlekldpaaPLiftx18
namespace Go.Proofs.Ytkhbpjhlekldpaa.LiftP
open Go.RowKit Go.Proofs.Ytkhbpjhlekldpaa.PLift Go.Proofs.YtkhbpjhlekldpaaW.PrintWords
set_option linter.unusedVariables false
theorem w64 {n : Int} (h0 : 0 ≤ n) (h1 : n < 9223372036854775808) : wrap64 n = n := by unfold wrap64; omega
def upOne (ans : List S64) (x : Int) : S64 := if 0 ≤ x ∧ x < (ans.length : Int) then rd_T64 ans x else ⟨false, false, []⟩
theorem rd_nat (xs : List Int) (i : Nat) (h : i < xs.length) : rd xs (i : Int) = xs[i] := by
  unfold rd
  rw [List.getD_eq_getElem?_getD, show ((i : Int)).toNat = i from Int.toNat_natCast i, List.getElem?_eq_getElem h, Option.getD_some]
theorem rdT_nat (xs : List S64) (i : Nat) (h : i < xs.length) : rd_T64 xs (i : Int) = xs[i] := by
  unfold rd_T64
  rw [List.getD_eq_getElem?_getD, show ((i : Int)).toNat = i from Int.toNat_natCast i, List.getElem?_eq_getElem h, Option.getD_some]
theorem rdT_mem (xs : List S64) (x : Int) (h0 : 0 ≤ x) (h : x < (xs.length : Int)) : rd_T64 xs x ∈ xs := by
  have e := rdT_nat xs x.toNat (by omega)
  rw [show ((x.toNat : Nat) : Int) = x from Int.toNat_of_nonneg h0] at e
  rw [e]
  exact List.getElem_mem _
theorem up_l0 (ans : List S64) (bs : List Int) (hA : ∀ x ∈ ans, x.f2.length < 17592186044416) (hb : bs.length < 4000000000000) : ∀ d k i out, i + d = bs.length → d < k → out.length + d < 4398046511104 →
    lift_Up.l0 k ans out bs bs.length (i : Int) = some (out ++ (bs.drop i).map (upOne ans))
  | 0, k, i, out, h1, h2, h3 => by
    obtain ⟨k, rfl⟩ : ∃ q, k = q + 1 := ⟨k - 1, by omega⟩
    rw [lift_Up.l0, if_neg (by omega), List.drop_eq_nil_of_le (by omega)]
    simp
  | d + 1, k, i, out, h1, h2, h3 => by
    obtain ⟨k, rfl⟩ : ∃ q, k = q + 1 := ⟨k - 1, by omega⟩
    have hi : i < bs.length := by omega
    have ih := up_l0 ans bs hA hb d k (i + 1)
    have e1 : wrap64 ((i : Int) + 1) = ((i + 1 : Nat) : Int) := by rw [w64 (by omega) (by omega)]; omega
    rw [lift_Up.l0, if_pos (by omega), if_pos (by omega), if_pos (by omega), rd_nat bs i hi, e1, List.drop_eq_getElem_cons hi]
    generalize bs[i] = x
    by_cases h0 : x ≥ 0
    · rw [if_pos h0]
      by_cases hx : x < (ans.length : Int)
      · rw [if_pos hx, if_pos h0, if_pos (by have := hA _ (rdT_mem ans x h0 hx); simpa using this), if_pos (by omega), ih _ (by omega) (by omega) (by simp; omega)]
        simp [upOne, h0, hx]
      · rw [if_neg hx, if_pos (by omega), ih _ (by omega) (by omega) (by simp; omega)]
        simp [upOne, hx]
    · rw [if_neg h0, if_pos (by omega), ih _ (by omega) (by omega) (by simp; omega)]
      simp [upOne, show ¬ (0 ≤ x) from h0]
theorem up_f (ans : List S64) (bs : List Int) (hA : ∀ x ∈ ans, x.f2.length < 17592186044416) (hb : bs.length < 4000000000000) (k : Nat) (hk : bs.length < k) : lift_Up.f k bs ans = some (bs.map (upOne ans)) := by
  unfold lift_Up.f
  have := up_l0 ans bs hA hb bs.length k 0 [] (by omega) hk (by simp; omega)
  simpa using this
theorem same_l0 (a0 a1 b0 b1 : Bool) (l m : List Int) (hl : l.length = m.length) (hb : l.length < 9000000000000000000) : ∀ d k (i : Nat), i + d = l.length → d < k →
    lift_Same.l0 k l.length (i : Int) a0 a1 l b0 b1 m = some (decide (l.drop i = m.drop i))
  | 0, k, i, h1, h2 => by
    obtain ⟨k, rfl⟩ : ∃ q, k = q + 1 := ⟨k - 1, by omega⟩
    rw [lift_Same.l0, if_neg (by omega), List.drop_eq_nil_of_le (by omega), List.drop_eq_nil_of_le (by omega)]
    simp
  | d + 1, k, i, h1, h2 => by
    obtain ⟨k, rfl⟩ : ∃ q, k = q + 1 := ⟨k - 1, by omega⟩
    have hi : i < l.length := by omega
    have ih := same_l0 a0 a1 b0 b1 l m hl hb d k (i + 1) (by omega) (by omega)
    have e1 : wrap64 ((i : Int) + 1) = ((i + 1 : Nat) : Int) := by rw [w64 (by omega) (by omega)]; omega
    have hj : i < m.length := by omega
    rw [lift_Same.l0, if_pos (by omega), if_pos (by omega), if_pos (by omega), if_pos (by omega), rd_nat l i hi, rd_nat m i hj, e1, ih, List.drop_eq_getElem_cons hi, List.drop_eq_getElem_cons hj]
    generalize l.drop (i + 1) = L
    generalize m.drop (i + 1) = L'
    generalize l[i] = x
    generalize m[i] = y
    by_cases h : x = y
    · rw [if_pos h]; simp [h]
    · rw [if_neg h]; simp [h]
/-- Two answers are the same just if their parts are. -/
theorem same_f (a0 a1 b0 b1 : Bool) (l m : List Int) (hb : l.length < 9000000000000000000) (k : Nat) (hk : l.length + 2 ≤ k) :
    lift_Same.f k a0 a1 l b0 b1 m = some (decide (a0 = b0 ∧ a1 = b1 ∧ l = m)) := by
  obtain ⟨k, rfl⟩ : ∃ q, k = q + 1 := ⟨k - 1, by omega⟩
  unfold lift_Same.f
  by_cases h0 : a0 = b0
  · rw [if_neg (by simp [h0])]
    by_cases h1 : a1 = b1
    · rw [if_neg (by simp [h1]), lift_Same.j0]
      by_cases h2 : l.length = m.length
      · rw [if_neg (by simp [h2])]
        have := same_l0 a0 a1 b0 b1 l m h2 hb l.length k 0 (by omega) (by omega)
        rw [show ((0 : Nat) : Int) = 0 from rfl] at this
        rw [this]
        simp [h0, h1]
      · rw [if_pos (by simpa using fun h => h2 (by omega))]
        have : l ≠ m := fun h => h2 (by rw [h])
        simp [this]
    · rw [if_pos (by simpa using h1), lift_Same.j0]
      simp [h1]
  · rw [if_pos (by simpa using h0), lift_Same.j0]
    simp [h0]
end Go.Proofs.Ytkhbpjhlekldpaa.LiftP
