/- Plain law: PrefixText as the printer tells it answers true. -/
import Derived.Test.YtkbjjamaneiijaaDoorPreT
import Derived.Test.YtkbjjamaneiijaaDoorPPrex16
import Derived.Test.YtkbjjamaneiijaaDoorPPrex23
namespace Go.Proofs.YtkbjjamaneiijaaDoor.PreT
open Go.RowKit Go.Proofs.YtkbjjamaneiijaaDoor.PPre Go.Proofs.YtkbjjamaneiijaaDoorW.PrintWords Go.Proofs.YtkbjjamaneiijaaDoorW.PrintLast Go.Proofs.YtkbjjamaneiijaaDoorW.PrintMore Go.Proofs.YtkbjjamaneiijaaDoor.PfxL
set_option linter.unusedVariables false
set_option linter.unusedSimpArgs false
def makeOk (n : Nat) : Bool := match maquettelaw05_Make.f 40 (n : Int) with
  | some p => decide (0 ≤ p.1 ∧ p.1 < 4294967296)
  | none => false
set_option maxRecDepth 100000 in
theorem make_all : ((List.range 256).all makeOk) = true := by decide +kernel
theorem make_k (n : Int) (p : Int × Int) : ∀ k, maquettelaw05_Make.f 40 n = some p → maquettelaw05_Make.f (k + 40) n = some p
  | 0, h => h
  | k + 1, h => maquettelaw05_Make.mono _ _ _ (make_k n p k h)
theorem make_at {n : Int} (h0 : 0 ≤ n) (h1 : n ≤ 255) {k : Nat} (hk : 40 ≤ k) : ∃ a b, maquettelaw05_Make.f k n = some (a, b) ∧ 0 ≤ a ∧ a < 4294967296 := by
  have h := List.all_eq_true.1 make_all n.toNat (List.mem_range.2 (by omega))
  unfold makeOk at h
  rw [Int.toNat_of_nonneg h0] at h
  cases e : maquettelaw05_Make.f 40 n with
  | none => rw [e] at h; cases h
  | some p =>
    rw [e] at h
    have := of_decide_eq_true h
    have m := make_k n p (k - 40) e
    rw [show k - 40 + 40 = k by omega] at m
    exact ⟨p.1, p.2, m, this.1, this.2⟩
theorem round (k : Nat) (hk : 60 ≤ k) (xs : List S24) (i : Nat) (a b : Int) (hi : i < xs.length) (hl : xs.length < 100) (ha : (rd_T24 xs (i : Int)).f0 = a) (hb : (rd_T24 xs (i : Int)).f1 = b) (h0 : 0 ≤ a) (h1 : a < 4294967296) :
    maquettelaw05_PrefixText.l0 (k + 1) xs (xs.length : Int) (i : Int) = maquettelaw05_PrefixText.l0 k xs (xs.length : Int) ((i + 1 : Nat) : Int) := by
  have e1 : wrap64 ((i : Int) + 1) = ((i + 1 : Nat) : Int) := by unfold wrap64; omega
  rw [maquettelaw05_PrefixText.l0, if_pos (by omega), if_pos (by omega), if_pos (by omega), ha, hb, e1, PreM.lmay h0 h1 k (by omega), Option.bind_some]
  by_cases hm : May a b
  · obtain ⟨t, p1, p2, p3⟩ := text_all a b h0 h1 hm
    rw [decide_eq_true hm, if_pos rfl, p1 k (by omega), Option.bind_some, p2 k (by omega), Option.bind_some, Option.bind_some, p3 k (by omega), Option.bind_some, if_pos rfl, if_pos rfl, if_neg (by simp)]
  · rw [decide_eq_false hm, if_neg (by simp)]
theorem ltx (a b n : Int) (h0 : 0 ≤ a) (h1 : a < 4294967296) (hn0 : 0 ≤ n) (hn1 : n ≤ 255) : maquettelaw05_PrefixText.f 80 a b n = some true := by
  obtain ⟨c, d, em, c0, c1⟩ := make_at hn0 hn1 (k := 79) (by omega)
  have J : maquettelaw05_PrefixText.j0 80 n false a b = some true := by
    rw [show (80 : Nat) = 79 + 1 from rfl, maquettelaw05_PrefixText.j0, if_neg (by simp), em, Option.bind_some, Option.bind_some]
    have r0 := round 78 (by omega) [⟨a, b⟩, ⟨c, d⟩] 0 a b (by simp) (by simp) rfl rfl h0 h1
    have r1 := round 77 (by omega) [⟨a, b⟩, ⟨c, d⟩] 1 c d (by simp) (by simp) rfl rfl c0 c1
    rw [show (79 : Nat) = 78 + 1 from rfl]
    refine r0.trans ?_
    rw [show (78 : Nat) = 77 + 1 from rfl]
    refine r1.trans ?_
    rw [show (77 : Nat) = 76 + 1 from rfl, maquettelaw05_PrefixText.l0, if_neg (by simp)]
  unfold maquettelaw05_PrefixText.f
  rw [PreL.awake_at (by omega), Option.bind_some, if_pos rfl, may_f, Option.bind_some, PreM.lmay h0 h1 80 (by omega), Option.bind_some, if_neg (by simp), Option.bind_some]
  by_cases hm : May a b
  · rw [decide_eq_true hm, if_pos rfl]
    exact J
  · have ht : prefix_Text.f 80 a b = some ⟨#[]⟩ := by
      unfold prefix_Text.f
      rw [may_f, Option.bind_some, decide_eq_false hm, if_neg (by simp)]
    have he : ((⟨#[]⟩ : ByteArray).toList != ([] : List UInt8)) = false := by decide +kernel
    rw [decide_eq_false hm, if_neg (by simp), ht, Option.bind_some, he]
    exact J
end Go.Proofs.YtkbjjamaneiijaaDoor.PreT
