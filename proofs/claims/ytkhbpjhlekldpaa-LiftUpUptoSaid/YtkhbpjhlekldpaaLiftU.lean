/- Plain law: LiftUp as the printer tells it answers true. -/
import Derived.Test.YtkhbpjhlekldpaaLiftA
import Derived.Test.YtkhbpjhlekldpaaPLiftx19
namespace Go.Proofs.Ytkhbpjhlekldpaa.LiftQ
open Go.RowKit Go.Proofs.Ytkhbpjhlekldpaa.PLift Go.Proofs.YtkhbpjhlekldpaaW.PrintWords Go.Proofs.Ytkhbpjhlekldpaa.LiftP
set_option linter.unusedVariables false
theorem rdU (ans : List S64) (bs : List Int) (i : Nat) (hi : i < bs.length) : rd_T64 (bs.map (upOne ans)) (i : Int) = upOne ans bs[i] := by
  rw [rdT_nat _ i (by simpa using hi), List.getElem_map]
theorem lup_l1 (ans : List S64) (bs : List Int) (hA : ∀ x ∈ ans, x.f2.length < 17592186044416) (hb : bs.length < 4000000000000) (M : Nat) (hM : ∀ x ∈ ans, x.f2.length + 2 ≤ M) (hM2 : 2 ≤ M) : ∀ d k (i : Nat), i + d = bs.length → 2 * d + M < k →
    maquettelaw23_LiftUp.l1 k ans (bs.map (upOne ans)) bs (bs.length : Int) (i : Int) = some true
  | 0, k, i, h1, h2 => by
    obtain ⟨k, rfl⟩ : ∃ q, k = q + 1 := ⟨k - 1, by omega⟩
    rw [maquettelaw23_LiftUp.l1, if_neg (by omega)]
  | d + 1, k, i, h1, h2 => by
    obtain ⟨k, rfl⟩ : ∃ q, k = q + 2 := ⟨k - 2, by omega⟩
    have hi : i < bs.length := by omega
    have ih := lup_l1 ans bs hA hb M hM hM2 d k (i + 1) (by omega) (by omega)
    have e1 : wrap64 ((i : Int) + 1) = ((i + 1 : Nat) : Int) := by rw [w64 (by omega) (by omega)]; omega
    have hu := rdU ans bs i hi
    rw [show k + 2 = (k + 1) + 1 from rfl, maquettelaw23_LiftUp.l1, if_pos (by omega), if_pos (by omega), if_pos (by omega), rd_nat bs i hi]
    revert hu
    generalize bs[i] = x
    intro hu
    by_cases hx : 0 ≤ x ∧ x < (ans.length : Int)
    · obtain ⟨hx0, hx1⟩ := hx
      rw [if_pos hx0, decide_eq_true hx1, maquettelaw23_LiftUp.j2, if_pos rfl, if_pos hx0, if_pos hx1, if_pos (by omega), if_pos (by simp; omega), hu]
      have e : upOne ans x = rd_T64 ans x := by simp [upOne, hx0, hx1]
      have hm := rdT_mem ans x hx0 hx1
      rw [e, same_refl _ (hA _ hm) k (by have := hM _ hm; omega), Option.bind_some, if_pos rfl, e1, ih]
    · have e : upOne ans x = ⟨false, false, []⟩ := by simp only [upOne, if_neg hx]
      have key : maquettelaw23_LiftUp.j2 (k + 1) ans (bs.map (upOne ans)) (i : Int) x bs (bs.length : Int) (i : Int) false false false = some true := by
        rw [maquettelaw23_LiftUp.j2, if_neg (by simp), if_pos (by omega), if_pos (by simp; omega), hu, e]
        rw [same_refl ⟨false, false, []⟩ (by simp) k (by simp; omega), Option.bind_some, if_pos rfl, e1, ih]
      by_cases hx0 : x ≥ 0
      · rw [if_pos hx0, decide_eq_false (fun h => hx ⟨hx0, h⟩)]
        exact key
      · rw [if_neg hx0]
        exact key
theorem lup_l0 (ans : List S64) (bs : List Int) (hA : ∀ x ∈ ans, x.f2.length < 17592186044416) (hb : bs.length < 4000000000000) (M : Nat) (hM : ∀ x ∈ ans, x.f2.length + 2 ≤ M) (hM2 : 2 ≤ M) : ∀ d k (i : Nat) out, i + d = bs.length → out.length = i → d + 2 * bs.length + M + 2 < k →
    maquettelaw23_LiftUp.l0 k ans out bs (bs.length : Int) (i : Int) = some true
  | 0, k, i, out, h1, h2, h3 => by
    obtain ⟨k, rfl⟩ : ∃ q, k = q + 1 := ⟨k - 1, by omega⟩
    rw [maquettelaw23_LiftUp.l0, if_neg (by omega), up_f ans out hA (by omega) k (by omega), Option.bind_some, if_pos (by simp)]
    exact lup_l1 ans out hA (by omega) M hM hM2 out.length k 0 (by omega) (by omega)
  | d + 1, k, i, out, h1, h2, h3 => by
    obtain ⟨k, rfl⟩ : ∃ q, k = q + 1 := ⟨k - 1, by omega⟩
    have e1 : wrap64 ((i : Int) + 1) = ((i + 1 : Nat) : Int) := by rw [w64 (by omega) (by omega)]; omega
    rw [maquettelaw23_LiftUp.l0, if_pos (by omega), if_pos (by omega), if_pos (by omega), if_pos (by omega), e1]
    exact lup_l0 ans bs hA hb M hM hM2 d k (i + 1) _ (by omega) (by simp [h2]) (by omega)
theorem lup (bs : List Int) (ans : List S64) (hb : bs.length ≤ 1048576) (hA : ∀ x ∈ ans, x.f2.length ≤ 1048576) : ∃ k, maquettelaw23_LiftUp.f k bs ans = some true := by
  refine ⟨3 * bs.length + 2000000, ?_⟩
  unfold maquettelaw23_LiftUp.f
  rw [awake_at (by omega), Option.bind_some, if_pos rfl]
  exact lup_l0 ans bs (fun x hx => by have := hA x hx; omega) (by omega) 1048578 (fun x hx => by have := hA x hx; omega) (by omega) bs.length _ 0 [] (by omega) rfl (by omega)
end Go.Proofs.Ytkhbpjhlekldpaa.LiftQ
