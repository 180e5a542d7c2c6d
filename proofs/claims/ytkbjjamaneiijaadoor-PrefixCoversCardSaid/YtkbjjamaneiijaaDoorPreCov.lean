/- Plain law: PrefixCovers as the printer tells it answers true. -/
import Derived.Test.YtkbjjamaneiijaaDoorPreLc
import Derived.Test.YtkbjjamaneiijaaDoorPCovx17
namespace Go.Proofs.YtkbjjamaneiijaaDoor.PreL
open Go.RowKit Go.Proofs.YtkbjjamaneiijaaDoor.PCov Go.Proofs.YtkbjjamaneiijaaDoorW.PrintWords Go.Proofs.YtkbjjamaneiijaaDoorW.PrintLast Go.Proofs.YtkbjjamaneiijaaDoorW.PrintMore Go.Proofs.YtkbjjamaneiijaaDoor.PfxL
set_option linter.unusedVariables false
def makeOk (n : Nat) : Bool := match maquettelaw05_Make.f 40 (n : Int) with
  | some p => decide (0 ≤ p.1 ∧ p.1 < 4294967296 ∧ May p.1 p.2)
  | none => false
set_option maxRecDepth 100000 in
theorem make_all : ((List.range 256).all makeOk) = true := by decide +kernel
theorem make_k (n : Int) (p : Int × Int) : ∀ k, maquettelaw05_Make.f 40 n = some p → maquettelaw05_Make.f (k + 40) n = some p
  | 0, h => h
  | k + 1, h => maquettelaw05_Make.mono _ _ _ (make_k n p k h)
theorem make_at {n : Int} (h0 : 0 ≤ n) (h1 : n ≤ 255) : ∃ a b, maquettelaw05_Make.f 80 n = some (a, b) ∧ 0 ≤ a ∧ a < 4294967296 ∧ May a b := by
  have h := List.all_eq_true.1 make_all n.toNat (List.mem_range.2 (by omega))
  unfold makeOk at h
  rw [Int.toNat_of_nonneg h0] at h
  cases e : maquettelaw05_Make.f 40 n with
  | none => rw [e] at h; cases h
  | some p =>
    rw [e] at h
    have := of_decide_eq_true h
    exact ⟨p.1, p.2, make_k n p 40 e, this.1, this.2.1, this.2.2⟩
/-! ### bits -/
def tb (a : Int) (k : Int) : Bool := (bv a).getLsbD (31 - k).toNat
theorem bit_f {a k : Int} (h0 : 0 ≤ a) (h1 : a < 4294967296) (hk0 : 0 ≤ k) (hk1 : k < 32) : maquettelaw05_bit.f a k = some ((tb a k).toNat : Int) := by
  unfold maquettelaw05_bit.f
  have e : wrap64 (31 - k) = 31 - k := by unfold wrap64; omega
  rw [e, if_pos (by omega), and_u32]
  refine congrArg some (congrArg Nat.cast ?_)
  unfold tb shr bv
  have hj : min (31 - k).toNat (IntKind.u32.bits) = (31 - k).toNat := by
    have : IntKind.u32.bits = 32 := rfl
    omega
  rw [hj, BitVec.toNat_and, BitVec.getLsbD, BitVec.toNat_ofInt, BitVec.toNat_ofInt, BitVec.toNat_ofInt]
  obtain ⟨n, rfl⟩ : ∃ n : Nat, a = (n : Int) := ⟨a.toNat, (Int.toNat_of_nonneg h0).symm⟩
  generalize (31 - k).toNat = j
  have e1 : ((n : Int) % ((2 ^ 32 : Nat) : Int)).toNat = n := by omega
  have e2 : (((n : Int) / 2 ^ j) % ((2 ^ 32 : Nat) : Int)).toNat = n / 2 ^ j := by
    have q : ((n : Int) / 2 ^ j) = ((n / 2 ^ j : Nat) : Int) := by simp
    rw [q]
    have h5 : n / 2 ^ j ≤ n := Nat.div_le_self _ _
    clear q
    generalize n / 2 ^ j = m at h5 ⊢
    omega
  have e3 : ((1 : Int) % ((2 ^ 32 : Nat) : Int)).toNat = 1 := by decide
  rw [e1, e2, e3, Nat.and_one_is_mod, Nat.toNat_testBit]
theorem mk_bits : ∀ b : Fin 33, ∀ i : Fin 32, (mk (b.val : Int)).getLsbD i.val = decide (32 - b.val ≤ i.val) := by decide +kernel
theorem mk_bit {b : Int} (h0 : 0 ≤ b) (h1 : b ≤ 32) {i : Nat} (hi : i < 32) : (mk b).getLsbD i = decide (32 - b.toNat ≤ i) := by
  have := mk_bits ⟨b.toNat, by omega⟩ ⟨i, hi⟩
  simp only [Int.toNat_of_nonneg h0] at this
  exact this
/-- All bits from k on are 0. -/
theorem may_bits {a b : Int} (h0 : 0 ≤ b) (h1 : b ≤ 32) : bv a &&& ~~~ mk b = 0#32 ↔ ∀ k : Int, b ≤ k → k < 32 → tb a k = false := by
  constructor
  · intro h k hk0 hk1
    have := congrArg (fun x : BitVec 32 => x.getLsbD (31 - k).toNat) h
    simp only [BitVec.getLsbD_and, BitVec.getLsbD_not, BitVec.getLsbD_zero] at this
    rw [mk_bit h0 h1 (by omega), decide_eq_false (by omega : ¬ (32 - b.toNat ≤ (31 - k).toNat)), decide_eq_true (by omega : (31 - k).toNat < 32)] at this
    simpa [tb] using this
  · intro h
    apply BitVec.eq_of_getLsbD_eq
    intro i hi
    simp only [BitVec.getLsbD_and, BitVec.getLsbD_not, BitVec.getLsbD_zero]
    rw [mk_bit h0 h1 hi]
    by_cases q : 32 - b.toNat ≤ i
    · simp [q]
    · have := h (31 - (i : Int)) (by omega) (by omega)
      unfold tb at this
      rw [show (31 - (31 - (i : Int))).toNat = i by omega] at this
      simp [this]
theorem cov_bits {a b c : Int} (h0 : 0 ≤ b) (h1 : b ≤ 32) (hm : bv a &&& ~~~ mk b = 0#32) : bv c &&& mk b = bv a ↔ ∀ k : Int, 0 ≤ k → k < b → tb a k = tb c k := by
  have hm' := (may_bits h0 h1).1 hm
  constructor
  · intro h k hk0 hk1
    have := congrArg (fun x : BitVec 32 => x.getLsbD (31 - k).toNat) h
    simp only [BitVec.getLsbD_and] at this
    rw [mk_bit h0 h1 (by omega), decide_eq_true (by omega : 32 - b.toNat ≤ (31 - k).toNat), Bool.and_true] at this
    exact this.symm
  · intro h
    apply BitVec.eq_of_getLsbD_eq
    intro i hi
    simp only [BitVec.getLsbD_and]
    rw [mk_bit h0 h1 hi]
    by_cases q : 32 - b.toNat ≤ i
    · have := h (31 - (i : Int)) (by omega) (by omega)
      unfold tb at this
      rw [show (31 - (31 - (i : Int))).toNat = i by omega] at this
      simp [q, this]
    · have := hm' (31 - (i : Int)) (by omega) (by omega)
      unfold tb at this
      rw [show (31 - (31 - (i : Int))).toNat = i by omega] at this
      simp [q, this]
open scoped Classical in
theorem may_l0 {a b : Int} (h0 : 0 ≤ a) (h1 : a < 4294967296) : ∀ (d k : Nat) (x : Int), 0 ≤ x → x + (d : Int) = 32 → d < k → maquettelaw05_may.l0 k x a b = some (decide (∀ j : Int, x ≤ j → j < 32 → tb a j = false))
  | 0, k, x, hx, h2, h3 => by
    obtain ⟨k, rfl⟩ : ∃ q, k = q + 1 := ⟨k - 1, by omega⟩
    rw [maquettelaw05_may.l0, if_neg (by omega)]
    rw [decide_eq_true (fun j p q => by omega)]
  | d + 1, k, x, hx, h2, h3 => by
    obtain ⟨k, rfl⟩ : ∃ q, k = q + 1 := ⟨k - 1, by omega⟩
    have ew : wrap64 (x + 1) = x + 1 := by unfold wrap64; omega
    rw [maquettelaw05_may.l0, if_pos (by omega), bit_f h0 h1 hx (by omega), Option.bind_some, ew]
    by_cases ht : tb a x = false
    · rw [ht, if_pos (by decide), may_l0 h0 h1 d k (x + 1) (by omega) (by omega) (by omega)]
      refine congrArg some (decide_eq_decide.2 ⟨fun h j p q => ?_, fun h j p q => h j (by omega) q⟩)
      rcases Int.lt_or_eq_of_le p with p | p
      · exact h j (by omega) q
      · subst p; exact ht
    · have ht' : tb a x = true := by simpa using ht
      rw [ht', if_neg (by decide), decide_eq_false (fun h => ht (h x (Int.le_refl _) (by omega)))]
theorem lmay {a b : Int} (h0 : 0 ≤ a) (h1 : a < 4294967296) (k : Nat) (hk : 40 ≤ k) : maquettelaw05_may.f k a b = some (decide (May a b)) := by
  obtain ⟨k, rfl⟩ : ∃ q, k = q + 1 := ⟨k - 1, by omega⟩
  unfold maquettelaw05_may.f May
  by_cases hb : b < 0
  · rw [if_pos hb, maquettelaw05_may.j0, if_pos rfl, decide_eq_false (show ¬ (0 ≤ b ∧ b ≤ 32 ∧ bv a &&& ~~~ mk b = 0#32) from fun h => by have := h.1; omega)]
  · rw [if_neg hb, maquettelaw05_may.j0]
    by_cases hb2 : b > 32
    · rw [if_pos (by simpa using hb2), decide_eq_false (show ¬ (0 ≤ b ∧ b ≤ 32 ∧ bv a &&& ~~~ mk b = 0#32) from fun h => by have := h.2.1; omega)]
    · rw [if_neg (by simpa using hb2), may_l0 h0 h1 (32 - b).toNat k b (by omega) (by omega) (by omega)]
      refine congrArg some (decide_eq_decide.2 ?_)
      rw [and_iff_right (by omega), and_iff_right (by omega)]
      exact (may_bits (by omega) (by omega)).symm
open scoped Classical in
theorem cov_l0 {a b c d : Int} (h0 : 0 ≤ a) (h1 : a < 4294967296) (h2 : 0 ≤ c) (h3 : c < 4294967296) (hb0 : 0 ≤ b) (hb : b ≤ 32) : ∀ (n k : Nat) (x : Int), 0 ≤ x → x + (n : Int) = b → n < k → maquettelaw05_PrefixCovers_1.l0 k x a b c d = some (decide (∀ j : Int, x ≤ j → j < b → tb a j = tb c j))
  | 0, k, x, hx, h4, h5 => by
    obtain ⟨k, rfl⟩ : ∃ q, k = q + 1 := ⟨k - 1, by omega⟩
    rw [maquettelaw05_PrefixCovers_1.l0, if_neg (by omega), decide_eq_true (fun j p q => by omega)]
  | n + 1, k, x, hx, h4, h5 => by
    obtain ⟨k, rfl⟩ : ∃ q, k = q + 1 := ⟨k - 1, by omega⟩
    have ew : wrap64 (x + 1) = x + 1 := by unfold wrap64; omega
    rw [maquettelaw05_PrefixCovers_1.l0, if_pos (by omega), bit_f h0 h1 hx (by omega), Option.bind_some, bit_f h2 h3 hx (by omega), Option.bind_some, ew]
    by_cases ht : tb a x = tb c x
    · rw [ht, if_pos rfl, cov_l0 h0 h1 h2 h3 hb0 hb n k (x + 1) (by omega) (by omega) (by omega)]
      refine congrArg some (decide_eq_decide.2 ⟨fun h j p q => ?_, fun h j p q => h j (by omega) q⟩)
      rcases Int.lt_or_eq_of_le p with p | p
      · exact h j (by omega) q
      · subst p; exact ht
    · rw [if_neg (by
        intro e
        apply ht
        revert e
        cases tb a x <;> cases tb c x <;> decide), decide_eq_false (fun h => ht (h x (Int.le_refl _) (by omega)))]
theorem lcov {a b c d : Int} (h0 : 0 ≤ a) (h1 : a < 4294967296) (h2 : 0 ≤ c) (h3 : c < 4294967296) (k : Nat) (hk : 40 ≤ k) : maquettelaw05_PrefixCovers_1.f k a b c d = some (decide (Cov a b c d)) := by
  obtain ⟨k, rfl⟩ : ∃ q, k = q + 1 := ⟨k - 1, by omega⟩
  unfold maquettelaw05_PrefixCovers_1.f
  rw [lmay h0 h1 _ hk, Option.bind_some, lmay h2 h3 _ hk, Option.bind_some]
  unfold Cov
  by_cases m1 : May a b
  · rw [decide_eq_true m1, if_pos rfl]
    by_cases m2 : May c d
    · rw [decide_eq_true m2, if_pos rfl, maquettelaw05_PrefixCovers_1.j0]
      by_cases hl : b > d
      · rw [if_pos (by simpa using hl), decide_eq_false (show ¬ (May a b ∧ May c d ∧ b ≤ d ∧ bv c &&& mk b = bv a) from fun h => by have := h.2.2.1; omega)]
      · obtain ⟨p1, p2, p3⟩ := m1
        rw [if_neg (by simpa using hl), cov_l0 h0 h1 h2 h3 p1 p2 b.toNat k 0 (by omega) (by omega) (by omega)]
        refine congrArg some (decide_eq_decide.2 ?_)
        rw [and_iff_right ⟨p1, p2, p3⟩, and_iff_right m2, and_iff_right (by omega)]
        exact (cov_bits p1 p2 p3).symm
    · rw [decide_eq_false m2, if_neg (by simp), maquettelaw05_PrefixCovers_1.j0, if_pos rfl, decide_eq_false (show ¬ (May a b ∧ May c d ∧ b ≤ d ∧ bv c &&& mk b = bv a) from fun h => m2 h.2.1)]
  · rw [decide_eq_false m1, if_neg (by simp), maquettelaw05_PrefixCovers_1.j0, if_pos rfl, decide_eq_false (show ¬ (May a b ∧ May c d ∧ b ≤ d ∧ bv c &&& mk b = bv a) from fun h => m1 h.1)]
theorem lcovers (x y a b c d : Int) (hx0 : 0 ≤ x) (hx1 : x ≤ 255) (hy0 : 0 ≤ y) (hy1 : y ≤ 255) (h0 : 0 ≤ a) (h1 : a < 4294967296) (h2 : 0 ≤ c) (h3 : c < 4294967296) : maquettelaw05_PrefixCovers.f 80 x y a b c d = some true := by
  obtain ⟨e, f, e1, p1, p2, p3⟩ := make_at hx0 hx1
  obtain ⟨g, h, e2, q1, q2, q3⟩ := make_at hy0 hy1
  unfold maquettelaw05_PrefixCovers.f
  rw [awake_at (by omega), Option.bind_some, if_pos rfl, e1, Option.bind_some, e2, Option.bind_some, cov_f _ _ _ _ p1 p2, Option.bind_some, lcov p1 p2 q1 q2 _ (by omega), Option.bind_some, if_pos (by simp),
    cov_f _ _ _ _ h0 h1, Option.bind_some, lcov h0 h1 h2 h3 _ (by omega), Option.bind_some, if_pos (by simp), cov_f _ _ _ _ p1 p2, Option.bind_some, decide_eq_true (cov_refl p3)]
end Go.Proofs.YtkbjjamaneiijaaDoor.PreL
