/- Plain law: prefix.May as the printer tells them, in bits. -/
import Derived.Test.YtbclogifkifaaaaDoorPPrex6
namespace Go.Proofs.YtbclogifkifaaaaDoor.PfxL
open Go.RowKit Go.Proofs.YtbclogifkifaaaaDoor.PPre Go.Proofs.YtbclogifkifaaaaDoorW.PrintWords Go.Proofs.YtbclogifkifaaaaDoorW.PrintLast Go.Proofs.YtbclogifkifaaaaDoorW.PrintMore
set_option linter.unusedVariables false
def maskI (b : Int) : Int := if b ≤ 0 then 0 else shl .u32 4294967295 (32 - (if b ≤ 32 then b else 32))
def mk (b : Int) : BitVec 32 := BitVec.ofInt 32 (maskI b)
def bv (a : Int) : BitVec 32 := BitVec.ofInt 32 a
theorem mask_f (b : Int) : prefix_mask.f b = some (maskI b) := by
  unfold prefix_mask.f maskI
  by_cases h : b ≤ 0
  · rw [if_pos h, if_pos h]
  · rw [if_neg h, if_neg h]
    have e : wrap64 (32 - mn b 32) = 32 - (if b ≤ 32 then b else 32) := by
      unfold wrap64 mn
      split <;> split <;> omega
    rw [e, if_pos (by split <;> omega)]
theorem wrap_u32_nat (x : BitVec 32) : IntKind.u32.wrap (x.toNat : Int) = x.toNat := by
  have := x.isLt
  rw [IntKind.wrap_u32]
  omega
theorem and_u32 (x y : Int) : Go.bits .and .u32 x y = ((bv x &&& bv y).toNat : Int) := wrap_u32_nat _
theorem andNot_u32 (x y : Int) : Go.bits .andNot .u32 x y = ((bv x &&& ~~~ bv y).toNat : Int) := wrap_u32_nat _
/-- All bits behind its own are 0. -/
def May (a b : Int) : Prop := 0 ≤ b ∧ b ≤ 32 ∧ bv a &&& ~~~ mk b = 0#32
instance (a b : Int) : Decidable (May a b) := by unfold May; infer_instance
theorem toNat_zero {x : BitVec 32} : ((x.toNat : Int) == 0) = decide (x = 0#32) := by
  by_cases h : x = 0#32
  · subst h; rfl
  · rw [decide_eq_false h]
    have : x.toNat ≠ 0 := fun e => h (BitVec.eq_of_toNat_eq e)
    simpa using this
theorem may_f (a b : Int) : prefix_May.f a b = some (decide (May a b)) := by
  unfold prefix_May.f May
  rw [mask_f, Option.bind_some, andNot_u32, toNat_zero]
  by_cases h0 : b ≥ 0
  · rw [if_pos h0]
    by_cases h1 : b ≤ 32
    · rw [if_pos h1]
      refine congrArg some (decide_eq_decide.2 ?_)
      rw [and_iff_right h0, and_iff_right h1]
      exact Iff.rfl
    · rw [if_neg h1]; simp [h1]
  · rw [if_neg h0]
    simp [show ¬ (0 ≤ b) from h0]
def Cov (a b c d : Int) : Prop := May a b ∧ May c d ∧ b ≤ d ∧ bv c &&& mk b = bv a
instance (a b c d : Int) : Decidable (Cov a b c d) := by unfold Cov; infer_instance
/-! ### masks -/
end Go.Proofs.YtbclogifkifaaaaDoor.PfxL
