/- Plain law: prefix.May, Covers and Less as the printer tells them, in bits. -/
import Derived.Test.YtkbjjamaneiijaaDoorPPrex14
namespace Go.Proofs.YtkbjjamaneiijaaDoor.PfxL
open Go.RowKit Go.Proofs.YtkbjjamaneiijaaDoor.PPre Go.Proofs.YtkbjjamaneiijaaDoorW.PrintWords Go.Proofs.YtkbjjamaneiijaaDoorW.PrintLast Go.Proofs.YtkbjjamaneiijaaDoorW.PrintMore
set_option linter.unusedVariables false
def maskI (b : Int) : Int := if b ≤ 0 then 0 else shl .u32 4294967295 (32 - (if b ≤ 32 then b else 32))
def mk (b : Int) : BitVec 32 := BitVec.ofInt 32 (maskI b)
def bv (a : Int) : BitVec 32 := BitVec.ofInt 32 a
theorem mask_f (b : Int) : prefix_mask.f b = some (maskI b) := by
  unfold prefix_mask.f maskI
  by_cases h : b ≤ 0
  · rw [if_pos h, if_pos h]
  · rw [if_neg h, if_neg h]
    have e : wrap64 (32 - mn b 32) = 32 - (if b ≤ 32 then b else 32) := by
      unfold wrap64 mn
      split <;> split <;> omega
    rw [e, if_pos (by split <;> omega)]
theorem wrap_u32_nat (x : BitVec 32) : IntKind.u32.wrap (x.toNat : Int) = x.toNat := by
  have := x.isLt
  rw [IntKind.wrap_u32]
  omega
theorem and_u32 (x y : Int) : Go.bits .and .u32 x y = ((bv x &&& bv y).toNat : Int) := wrap_u32_nat _
theorem andNot_u32 (x y : Int) : Go.bits .andNot .u32 x y = ((bv x &&& ~~~ bv y).toNat : Int) := wrap_u32_nat _
/-- All bits behind its own are 0. -/
def May (a b : Int) : Prop := 0 ≤ b ∧ b ≤ 32 ∧ bv a &&& ~~~ mk b = 0#32
instance (a b : Int) : Decidable (May a b) := by unfold May; infer_instance
theorem toNat_zero {x : BitVec 32} : ((x.toNat : Int) == 0) = decide (x = 0#32) := by
  by_cases h : x = 0#32
  · subst h; rfl
  · rw [decide_eq_false h]
    have : x.toNat ≠ 0 := fun e => h (BitVec.eq_of_toNat_eq e)
    simpa using this
theorem may_f (a b : Int) : prefix_May.f a b = some (decide (May a b)) := by
  unfold prefix_May.f May
  rw [mask_f, Option.bind_some, andNot_u32, toNat_zero]
  by_cases h0 : b ≥ 0
  · rw [if_pos h0]
    by_cases h1 : b ≤ 32
    · rw [if_pos h1]
      refine congrArg some (decide_eq_decide.2 ?_)
      rw [and_iff_right h0, and_iff_right h1]
      exact Iff.rfl
    · rw [if_neg h1]; simp [h1]
  · rw [if_neg h0]
    simp [show ¬ (0 ≤ b) from h0]
theorem bv_eq {a : Int} (h0 : 0 ≤ a) (h1 : a < 4294967296) (x : BitVec 32) : ((x.toNat : Int) == a) = decide (x = bv a) := by
  have ha : (bv a).toNat = a.toNat := by
    unfold bv
    rw [BitVec.toNat_ofInt]
    omega
  by_cases h : x = bv a
  · rw [decide_eq_true h, h, ha]
    simp
    omega
  · rw [decide_eq_false h]
    have : x.toNat ≠ (bv a).toNat := fun e => h (BitVec.eq_of_toNat_eq e)
    rw [ha] at this
    simp
    omega
theorem bv_inj {a b : Int} (h0 : 0 ≤ a) (h1 : a < 4294967296) (h2 : 0 ≤ b) (h3 : b < 4294967296) (h : bv a = bv b) : a = b := by
  have := congrArg BitVec.toNat h
  unfold bv at this
  rw [BitVec.toNat_ofInt, BitVec.toNat_ofInt] at this
  omega
def Cov (a b c d : Int) : Prop := May a b ∧ May c d ∧ b ≤ d ∧ bv c &&& mk b = bv a
instance (a b c d : Int) : Decidable (Cov a b c d) := by unfold Cov; infer_instance
theorem cov_f (a b c d : Int) (h0 : 0 ≤ a) (h1 : a < 4294967296) : prefix_Covers.f a b c d = some (decide (Cov a b c d)) := by
  unfold prefix_Covers.f Cov
  rw [may_f, may_f, mask_f]
  simp only [Option.bind_some]
  rw [and_u32, bv_eq h0 h1]
  by_cases e0 : May a b
  · by_cases e1 : May c d
    · by_cases e2 : b ≤ d
      · rw [decide_eq_true e0, decide_eq_true e1, if_pos rfl, if_pos rfl, if_pos e2]
        refine congrArg some (decide_eq_decide.2 ?_)
        rw [and_iff_right e0, and_iff_right e1, and_iff_right e2]
        exact Iff.rfl
      · simp [e0, e1, e2]
    · simp [e0, e1]
  · simp [e0]
/-! ### masks -/
theorem mk_and_nat : ∀ b : Fin 33, ∀ d : Fin 33, b.val ≤ d.val → mk (b.val : Int) &&& mk (d.val : Int) = mk (b.val : Int) := by decide +kernel
theorem mk_and {b d : Int} (h0 : 0 ≤ b) (h1 : b ≤ d) (h2 : d ≤ 32) : mk d &&& mk b = mk b := by
  have := mk_and_nat ⟨b.toNat, by omega⟩ ⟨d.toNat, by omega⟩ (by simp; omega)
  simp only [Int.toNat_of_nonneg h0, Int.toNat_of_nonneg (Int.le_trans h0 h1)] at this
  rw [BitVec.and_comm]
  exact this
theorem mk_zero : mk 0 = 0#32 := by decide
theorem mk_full : mk 32 = BitVec.allOnes 32 := by decide
theorem may_self {x m : BitVec 32} : x &&& ~~~ m = 0#32 ↔ x &&& m = x := by
  constructor
  · intro h
    have e : x = (x &&& m) ||| (x &&& ~~~ m) := by
      apply BitVec.eq_of_getLsbD_eq
      intro i hi
      simp [hi]
      generalize x[i] = u
      generalize m[i] = v
      cases u <;> cases v <;> rfl
    rw [h, BitVec.or_zero] at e
    exact e.symm
  · intro h
    rw [← h]
    apply BitVec.eq_of_getLsbD_eq
    intro i hi
    simp [hi]
theorem cov_trans {a b c d e f : Int} (h1 : Cov a b c d) (h2 : Cov c d e f) : Cov a b e f := by
  obtain ⟨m1, m2, l1, e1⟩ := h1
  obtain ⟨_, m3, l2, e2⟩ := h2
  refine ⟨m1, m3, by omega, ?_⟩
  rw [← e1, ← e2, BitVec.and_assoc, mk_and m1.1 l1 m2.2.1]
theorem cov_refl {a b : Int} (h : May a b) : Cov a b a b := ⟨h, h, Int.le_refl _, may_self.1 h.2.2⟩
theorem cov_anti {a b c d : Int} (h1 : Cov a b c d) (h2 : Cov c d a b) : bv a = bv c ∧ b = d := by
  obtain ⟨m1, m2, l1, e1⟩ := h1
  obtain ⟨_, _, l2, e2⟩ := h2
  have : b = d := by omega
  subst this
  refine ⟨?_, rfl⟩
  rw [← e1]
  exact may_self.1 m2.2.2
theorem and_le (x y : BitVec 32) : (x &&& y).toNat ≤ x.toNat := by
  rw [BitVec.toNat_and]
  exact Nat.and_le_left
end Go.Proofs.YtkbjjamaneiijaaDoor.PfxL
