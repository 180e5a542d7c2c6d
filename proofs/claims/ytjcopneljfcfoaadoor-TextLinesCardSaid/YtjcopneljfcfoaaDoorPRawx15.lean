-- Written by wip/xprint.py of this work: the printer of the kit, with contracts of this work beside it, shortened.
import Derived.Test.YtjcopneljfcfoaaDoorShort
import Derived.Test.YtjcopneljfcfoaaDoorPRawx0
namespace Go.Proofs.YtjcopneljfcfoaaDoor.PRaw
open Go.RowKit Go.Proofs.YtjcopneljfcfoaaDoor.Short Go.Proofs.YtjcopneljfcfoaaDoorW.PrintWords Go.Proofs.YtjcopneljfcfoaaDoorW.PrintLast Go.Proofs.YtjcopneljfcfoaaDoorW.PrintMore
attribute [local go_sem] max2_int min2_int max_two min_two max_three min_three max_four min_four   -- for this text's walks alone
set_option linter.unusedVariables false
set_option linter.unusedSimpArgs false

/-! ### maquettelaw07_named: function 32 -/
def maquettelaw07_named.f (a0 : ByteArray) (a1 : ByteArray) : Option (ByteArray) := if a1.toList = ([] : List UInt8) then (some (⟨#[]⟩ : ByteArray)) else (if a1.toList = ([48] : List UInt8) then (some (⟨#[]⟩ : ByteArray)) else (if 1 + a0.size ≤ 9223372036854775807 then (if ((⟨#[32]⟩ : ByteArray) ++ a0).size + 1 ≤ 9223372036854775807 then (if (((⟨#[32]⟩ : ByteArray) ++ a0) ++ (⟨#[32]⟩ : ByteArray)).size + a1.size ≤ 9223372036854775807 then (some ((((⟨#[32]⟩ : ByteArray) ++ a0) ++ (⟨#[32]⟩ : ByteArray)) ++ a1)) else (none)) else (none)) else (none)))
set_option maxHeartbeats 8000000 in
set_option maxRecDepth 100000 in
theorem maquettelaw07_named.calls (a0 : ByteArray) (a1 : ByteArray) (r : ByteArray) (w : World) (h : maquettelaw07_named.f a0 a1 = some r) :
  Calls Tryd.prog 32 #[.string a0, .string a1] w fun e w' => e = .returned (.string r) ∧ Drawn0 w w' := by
 have H : (if a1.toList = ([] : List UInt8) then (some (⟨#[]⟩ : ByteArray)) else (if a1.toList = ([48] : List UInt8) then (some (⟨#[]⟩ : ByteArray)) else (if 1 + a0.size ≤ 9223372036854775807 then (if ((⟨#[32]⟩ : ByteArray) ++ a0).size + 1 ≤ 9223372036854775807 then (if (((⟨#[32]⟩ : ByteArray) ++ a0) ++ (⟨#[32]⟩ : ByteArray)).size + a1.size ≤ 9223372036854775807 then (some ((((⟨#[32]⟩ : ByteArray) ++ a0) ++ (⟨#[32]⟩ : ByteArray)) ++ a1)) else (none)) else (none)) else (none)))) = some r := h
 clear h
 by_cases c3 : a1.toList = ([] : List UInt8)
 ·rw [if_pos c3] at H
  have c3b0 : (a1.toList == ([] : List UInt8)) = true := beq_iff_eq.mpr c3
  have c3b1 : (a1.toList != ([] : List UInt8)) = false := bne_eq_false_iff_eq.mpr c3
  clear c3
  obtain rfl := Option.some.inj H
  go_enter Tryd.func32, Tryd.ntmps32
  go_wp2
  go_ret
  exact ⟨by first | rfl | (simp; done) | (simp [*]; done), by repeat (first | exact Drawn0.refl _ | apply Drawn0.step)⟩
 ·rw [if_neg c3] at H
  have c3b0 : (a1.toList == ([] : List UInt8)) = false := beq_eq_false_iff_ne.mpr c3
  have c3b1 : (a1.toList != ([] : List UInt8)) = true := bne_iff_ne.mpr c3
  by_cases c4 : a1.toList = ([48] : List UInt8)
  ·rw [if_pos c4] at H
   have c4b0 : (a1.toList == ([48] : List UInt8)) = true := beq_iff_eq.mpr c4
   have c4b1 : (a1.toList != ([48] : List UInt8)) = false := bne_eq_false_iff_eq.mpr c4
   clear c4
   obtain rfl := Option.some.inj H
   go_enter Tryd.func32, Tryd.ntmps32
   go_wp2
   go_ret
   exact ⟨by first | rfl | (simp; done) | (simp [*]; done), by repeat (first | exact Drawn0.refl _ | apply Drawn0.step)⟩
  ·rw [if_neg c4] at H
   have c4b0 : (a1.toList == ([48] : List UInt8)) = false := beq_eq_false_iff_ne.mpr c4
   have c4b1 : (a1.toList != ([48] : List UInt8)) = true := bne_iff_ne.mpr c4
   by_cases c5 : 1 + a0.size ≤ 9223372036854775807
   ·rw [if_pos c5] at H
    have c5b0 := eq_true c5
    have c5b1 := decide_eq_true c5
    try have c5b2 := eq_false (Nat.not_lt.2 c5)
    by_cases c6 : ((⟨#[32]⟩ : ByteArray) ++ a0).size + 1 ≤ 9223372036854775807
    ·rw [if_pos c6] at H
     have c6b0 := eq_true c6
     have c6b1 := decide_eq_true c6
     try have c6b2 := eq_false (Nat.not_lt.2 c6)
     try have c6b3 : (9223372036854775807 < 1 + a0.size + 1) = False := by (have h_ := c6; simp only [ByteArray.size_append] at h_; exact eq_false (Nat.not_lt.2 h_))
     by_cases c7 : (((⟨#[32]⟩ : ByteArray) ++ a0) ++ (⟨#[32]⟩ : ByteArray)).size + a1.size ≤ 9223372036854775807
     ·rw [if_pos c7] at H
      have c7b0 := eq_true c7
      have c7b1 := decide_eq_true c7
      try have c7b2 := eq_false (Nat.not_lt.2 c7)
      try have c7b3 : (9223372036854775807 < 1 + a0.size + 1 + a1.size) = False := by (have h_ := c7; simp only [ByteArray.size_append] at h_; exact eq_false (Nat.not_lt.2 h_))
      obtain rfl := Option.some.inj H
      go_enter Tryd.func32, Tryd.ntmps32
      go_wp2
      go_ret
      exact ⟨by first | rfl | (simp; done) | (simp [*]; done), by repeat (first | exact Drawn0.refl _ | apply Drawn0.step)⟩
     ·rw [if_neg c7] at H
      exact absurd H (by simp)
    ·rw [if_neg c6] at H
     exact absurd H (by simp)
   ·rw [if_neg c5] at H
    exact absurd H (by simp)

end Go.Proofs.YtjcopneljfcfoaaDoor.PRaw
