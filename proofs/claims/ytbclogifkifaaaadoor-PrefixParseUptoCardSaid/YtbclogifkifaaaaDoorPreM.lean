/- Plain law: the law's own may. -/
import Derived.Test.YtbclogifkifaaaaDoorPreL
import Derived.Test.YtbclogifkifaaaaDoorPPrex16
namespace Go.Proofs.YtbclogifkifaaaaDoor.PreM
open Go.RowKit Go.Proofs.YtbclogifkifaaaaDoor.PPre Go.Proofs.YtbclogifkifaaaaDoorW.PrintWords Go.Proofs.YtbclogifkifaaaaDoorW.PrintLast Go.Proofs.YtbclogifkifaaaaDoorW.PrintMore Go.Proofs.YtbclogifkifaaaaDoor.PfxL
set_option linter.unusedVariables false
/-! ### bits -/
def tb (a : Int) (k : Int) : Bool := (bv a).getLsbD (31 - k).toNat
theorem bit_f {a k : Int} (h0 : 0 ≤ a) (h1 : a < 4294967296) (hk0 : 0 ≤ k) (hk1 : k < 32) : maquettelaw05_bit.f a k = some ((tb a k).toNat : Int) := by
  unfold maquettelaw05_bit.f
  have e : wrap64 (31 - k) = 31 - k := by unfold wrap64; omega
  rw [e, if_pos (by omega), and_u32]
  refine congrArg some (congrArg Nat.cast ?_)
  unfold tb shr bv
  have hj : min (31 - k).toNat (IntKind.u32.bits) = (31 - k).toNat := by
    have : IntKind.u32.bits = 32 := rfl
    omega
  rw [hj, BitVec.toNat_and, BitVec.getLsbD, BitVec.toNat_ofInt, BitVec.toNat_ofInt, BitVec.toNat_ofInt]
  obtain ⟨n, rfl⟩ : ∃ n : Nat, a = (n : Int) := ⟨a.toNat, (Int.toNat_of_nonneg h0).symm⟩
  generalize (31 - k).toNat = j
  have e1 : ((n : Int) % ((2 ^ 32 : Nat) : Int)).toNat = n := by omega
  have e2 : (((n : Int) / 2 ^ j) % ((2 ^ 32 : Nat) : Int)).toNat = n / 2 ^ j := by
    have q : ((n : Int) / 2 ^ j) = ((n / 2 ^ j : Nat) : Int) := by simp
    rw [q]
    have h5 : n / 2 ^ j ≤ n := Nat.div_le_self _ _
    clear q
    generalize n / 2 ^ j = m at h5 ⊢
    omega
  have e3 : ((1 : Int) % ((2 ^ 32 : Nat) : Int)).toNat = 1 := by decide
  rw [e1, e2, e3, Nat.and_one_is_mod, Nat.toNat_testBit]
theorem mk_bits : ∀ b : Fin 33, ∀ i : Fin 32, (mk (b.val : Int)).getLsbD i.val = decide (32 - b.val ≤ i.val) := by decide +kernel
theorem mk_bit {b : Int} (h0 : 0 ≤ b) (h1 : b ≤ 32) {i : Nat} (hi : i < 32) : (mk b).getLsbD i = decide (32 - b.toNat ≤ i) := by
  have := mk_bits ⟨b.toNat, by omega⟩ ⟨i, hi⟩
  simp only [Int.toNat_of_nonneg h0] at this
  exact this
/-- All bits from k on are 0. -/
theorem may_bits {a b : Int} (h0 : 0 ≤ b) (h1 : b ≤ 32) : bv a &&& ~~~ mk b = 0#32 ↔ ∀ k : Int, b ≤ k → k < 32 → tb a k = false := by
  constructor
  · intro h k hk0 hk1
    have := congrArg (fun x : BitVec 32 => x.getLsbD (31 - k).toNat) h
    simp only [BitVec.getLsbD_and, BitVec.getLsbD_not, BitVec.getLsbD_zero] at this
    rw [mk_bit h0 h1 (by omega), decide_eq_false (by omega : ¬ (32 - b.toNat ≤ (31 - k).toNat)), decide_eq_true (by omega : (31 - k).toNat < 32)] at this
    simpa [tb] using this
  · intro h
    apply BitVec.eq_of_getLsbD_eq
    intro i hi
    simp only [BitVec.getLsbD_and, BitVec.getLsbD_not, BitVec.getLsbD_zero]
    rw [mk_bit h0 h1 hi]
    by_cases q : 32 - b.toNat ≤ i
    · simp [q]
    · have := h (31 - (i : Int)) (by omega) (by omega)
      unfold tb at this
      rw [show (31 - (31 - (i : Int))).toNat = i by omega] at this
      simp [this]
open scoped Classical in
theorem may_l0 {a b : Int} (h0 : 0 ≤ a) (h1 : a < 4294967296) : ∀ (d k : Nat) (x : Int), 0 ≤ x → x + (d : Int) = 32 → d < k → maquettelaw05_may.l0 k x a b = some (decide (∀ j : Int, x ≤ j → j < 32 → tb a j = false))
  | 0, k, x, hx, h2, h3 => by
    obtain ⟨k, rfl⟩ : ∃ q, k = q + 1 := ⟨k - 1, by omega⟩
    rw [maquettelaw05_may.l0, if_neg (by omega)]
    rw [decide_eq_true (fun j p q => by omega)]
  | d + 1, k, x, hx, h2, h3 => by
    obtain ⟨k, rfl⟩ : ∃ q, k = q + 1 := ⟨k - 1, by omega⟩
    have ew : wrap64 (x + 1) = x + 1 := by unfold wrap64; omega
    rw [maquettelaw05_may.l0, if_pos (by omega), bit_f h0 h1 hx (by omega), Option.bind_some, ew]
    by_cases ht : tb a x = false
    · rw [ht, if_pos (by decide), may_l0 h0 h1 d k (x + 1) (by omega) (by omega) (by omega)]
      refine congrArg some (decide_eq_decide.2 ⟨fun h j p q => ?_, fun h j p q => h j (by omega) q⟩)
      rcases Int.lt_or_eq_of_le p with p | p
      · exact h j (by omega) q
      · subst p; exact ht
    · have ht' : tb a x = true := by simpa using ht
      rw [ht', if_neg (by decide), decide_eq_false (fun h => ht (h x (Int.le_refl _) (by omega)))]
theorem lmay {a b : Int} (h0 : 0 ≤ a) (h1 : a < 4294967296) (k : Nat) (hk : 40 ≤ k) : maquettelaw05_may.f k a b = some (decide (May a b)) := by
  obtain ⟨k, rfl⟩ : ∃ q, k = q + 1 := ⟨k - 1, by omega⟩
  unfold maquettelaw05_may.f May
  by_cases hb : b < 0
  · rw [if_pos hb, maquettelaw05_may.j0, if_pos rfl, decide_eq_false (show ¬ (0 ≤ b ∧ b ≤ 32 ∧ bv a &&& ~~~ mk b = 0#32) from fun h => by have := h.1; omega)]
  · rw [if_neg hb, maquettelaw05_may.j0]
    by_cases hb2 : b > 32
    · rw [if_pos (by simpa using hb2), decide_eq_false (show ¬ (0 ≤ b ∧ b ≤ 32 ∧ bv a &&& ~~~ mk b = 0#32) from fun h => by have := h.2.1; omega)]
    · rw [if_neg (by simpa using hb2), may_l0 h0 h1 (32 - b).toNat k b (by omega) (by omega) (by omega)]
      refine congrArg some (decide_eq_decide.2 ?_)
      rw [and_iff_right (by omega), and_iff_right (by omega)]
      exact (may_bits (by omega) (by omega)).symm
end Go.Proofs.YtbclogifkifaaaaDoor.PreM
