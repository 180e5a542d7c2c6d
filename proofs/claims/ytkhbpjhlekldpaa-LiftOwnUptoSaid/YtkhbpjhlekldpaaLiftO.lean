/- Plain law: LiftOwn as the printer tells it answers true. -/
import Derived.Test.YtkhbpjhlekldpaaLiftA
import Derived.Test.YtkhbpjhlekldpaaPLiftx21
namespace Go.Proofs.Ytkhbpjhlekldpaa.LiftQ
open Go.RowKit Go.Proofs.Ytkhbpjhlekldpaa.PLift Go.Proofs.YtkhbpjhlekldpaaW.PrintWords Go.Proofs.Ytkhbpjhlekldpaa.LiftP
set_option linter.unusedVariables false
theorem lown_l0 (ans : List S64) (x5 : Int) (h5 : 0 ≤ x5) (h5' : x5 < (ans.length : Int)) (x : S64) (hx : rd_T64 ans x5 = x) (hb : x.f2.length < 17592186044416) (n : Nat) : ∀ d k (i : Nat) (f0 f1 : Bool) (l : List Int), i + d = n → l.length = n → n < 17592186044416 → d + x.f2.length + 2 < k →
    maquettelaw23_LiftOwn.l0 k ans x5 [⟨f0, f1, l⟩, x] (n : Int) (i : Int) = some true
  | 0, k, i, f0, f1, l, h1, h2, h3, h4 => by
    obtain ⟨k, rfl⟩ : ∃ q, k = q + 1 := ⟨k - 1, by omega⟩
    have e : rd_T64 [(⟨f0, f1, l⟩ : S64), x] 1 = x := rfl
    rw [maquettelaw23_LiftOwn.l0, if_neg (by omega), if_pos (by simp), if_pos h5, if_pos h5', e, hx, same_refl x hb k (by omega)]
    rfl
  | d + 1, k, i, f0, f1, l, h1, h2, h3, h4 => by
    obtain ⟨k, rfl⟩ : ∃ q, k = q + 1 := ⟨k - 1, by omega⟩
    have e1 : wrap64 ((i : Int) + 1) = ((i + 1 : Nat) : Int) := by rw [w64 (by omega) (by omega)]; omega
    have e : rd_T64 [(⟨f0, f1, l⟩ : S64), x] 0 = ⟨f0, f1, l⟩ := rfl
    rw [maquettelaw23_LiftOwn.l0, if_pos (by omega), if_pos (by simp), if_pos (by omega), e, if_pos (by simp; omega), e1]
    show maquettelaw23_LiftOwn.l0 k ans x5 [⟨f0, f1, _⟩, x] _ _ = _
    exact lown_l0 ans x5 h5 h5' x hx hb n d k (i + 1) f0 f1 _ (by omega) (by simp [h2]) h3 (by omega)
theorem lown (ans : List S64) (a1 : Int) (h0 : 0 ≤ a1) (h1 : a1 ≤ 255) (hl : ans.length ≤ 1048576) (hA : ∀ x ∈ ans, x.f2.length ≤ 1048576) : ∃ k, maquettelaw23_LiftOwn.f k ans a1 = some true := by
  refine ⟨3000000, ?_⟩
  have hA' : ∀ x ∈ ans, x.f2.length < 17592186044416 := fun x hx => by have := hA x hx; omega
  unfold maquettelaw23_LiftOwn.f
  rw [awake_at (by omega), Option.bind_some, if_pos rfl]
  by_cases he : (ans.length : Int) = 0
  · rw [if_pos he, up_f ans [0] hA' (by simp) _ (by simp)]
    rfl
  · rw [if_neg he, w64 h0 (by omega)]
    have k0 : 0 ≤ Int.tmod a1 (ans.length : Int) := Int.tmod_nonneg _ h0
    have k1 : Int.tmod a1 (ans.length : Int) < (ans.length : Int) := Int.tmod_lt_of_pos _ (by omega)
    generalize Int.tmod a1 (ans.length : Int) = x5 at k0 k1 ⊢
    have e : upOne ans x5 = rd_T64 ans x5 := by simp [upOne, k0, k1]
    have hm := rdT_mem ans x5 k0 k1
    generalize hx : rd_T64 ans x5 = x at e hm
    have hxl := hA x hm
    rw [up_f ans [x5, x5] hA' (by simp) _ (by simp), Option.bind_some]
    rw [show [x5, x5].map (upOne ans) = [x, x] from by simp [e]]
    have r0 : rd_T64 [x, x] 0 = x := rfl
    rw [if_pos (by simp), if_pos (by simp), if_pos k0, if_pos k1, r0, show (3000000 : Nat) = 2999999 + 1 from rfl, maquettelaw23_LiftOwn.j0, if_neg (by simp), if_pos (by simp), r0]
    exact lown_l0 ans x5 k0 k1 x hx (by omega) x.f2.length x.f2.length 2999999 0 x.f0 x.f1 x.f2 (by omega) rfl (by omega) (by omega)
end Go.Proofs.Ytkhbpjhlekldpaa.LiftQ
