/- Texts of this work, joined: PMmx7, PMmx8. -/
import Derived.Test.YtncebbpnmpgjiaaShort
import Derived.Test.YtncebbpnmpgjiaaPMmx0
section
namespace Go.Proofs.Ytncebbpnmpgjiaa.PMm
open Go.RowKit Go.Proofs.Ytncebbpnmpgjiaa.Short Go.Proofs.YtncebbpnmpgjiaaW.PrintWords Go.Proofs.YtncebbpnmpgjiaaW.PrintLast Go.Proofs.YtncebbpnmpgjiaaW.PrintMore
attribute [local go_sem] max2_int min2_int max_two min_two max_three min_three max_four min_four   -- for this text's walks alone
set_option linter.unusedVariables false
set_option linter.unusedSimpArgs false
/-! ### maquettelaw07_Name: function 9 -/
def maquettelaw07_Name.f (a0 : Int) : Option (ByteArray) := if 1 + (Utf8.encode (wrap32 (wrap64 (97 + a0)))).size ≤ 9223372036854775807 then (some ((⟨#[114]⟩ : ByteArray) ++ (Utf8.encode (wrap32 (wrap64 (97 + a0)))))) else (none)
set_option maxHeartbeats 8000000 in
set_option maxRecDepth 100000 in
theorem maquettelaw07_Name.calls (a0 : Int) (r : ByteArray) (w : World) (h : maquettelaw07_Name.f a0 = some r) :
  Calls Try.prog 9 #[.int .i64 a0] w fun e w' => e = .returned (.string r) ∧ Drawn0 w w' := by
 have H : (if 1 + (Utf8.encode (wrap32 (wrap64 (97 + a0)))).size ≤ 9223372036854775807 then (some ((⟨#[114]⟩ : ByteArray) ++ (Utf8.encode (wrap32 (wrap64 (97 + a0)))))) else (none)) = some r := h
 clear h
 by_cases c2 : 1 + (Utf8.encode (wrap32 (wrap64 (97 + a0)))).size ≤ 9223372036854775807
 ·rw [if_pos c2] at H
  have c2b0 := eq_true c2
  have c2b1 := decide_eq_true c2
  try have c2b2 := eq_false (Nat.not_lt.2 c2)
  obtain rfl := Option.some.inj H
  go_enter Try.func9, Try.ntmps9
  go_wp2
  go_ret
  exact ⟨by first | rfl | (simp; done) | (simp [*]; done), by repeat (first | exact Drawn0.refl _ | apply Drawn0.step)⟩
 ·rw [if_neg c2] at H
  exact absurd H (by simp)

/-! ### maquettelaw07_number: function 10 -/
def maquettelaw07_number.f (l0 : List Int) (a1 : Int) : Option (Int) := if (l0.length : Int) = 0 then (some 0) else (if 0 ≤ (Int.tmod a1 (l0.length : Int)) then (if (Int.tmod a1 (l0.length : Int)) < (l0.length : Int) then (some (wrap64 (rd l0 (Int.tmod a1 (l0.length : Int))))) else (none)) else (none))
set_option maxHeartbeats 8000000 in
set_option maxRecDepth 100000 in
theorem maquettelaw07_number.calls (A0 : Option Addr) (c0 : Nat) (l0 : List Int) (a1 : Int) (r : Int) (w : World) (hr0 : Kd.C (Kd.int .u8) w A0 l0.length l0) (hc0 : l0.length ≤ c0) (h : maquettelaw07_number.f l0 a1 = some r) :
  Calls Try.prog 10 #[.slice A0 l0.length c0, .int .i64 a1] w fun e w' => e = .returned (.int .i64 r) ∧ Drawn0 w w' := by
 have HR0 := Aside0.mk hr0
 have HC0 := Aside0.mk hc0
 clear hr0 hc0
 have H : (if (l0.length : Int) = 0 then (some 0) else (if 0 ≤ (Int.tmod a1 (l0.length : Int)) then (if (Int.tmod a1 (l0.length : Int)) < (l0.length : Int) then (some (wrap64 (rd l0 (Int.tmod a1 (l0.length : Int))))) else (none)) else (none))) = some r := h
 clear h
 by_cases c3 : (l0.length : Int) = 0
 ·rw [if_pos c3] at H
  have c3b0 : ((l0.length : Int) == 0) = true := beq_iff_eq.mpr c3
  have c3b1 : ((l0.length : Int) != 0) = false := bne_eq_false_iff_eq.mpr c3
  clear c3
  obtain rfl := Option.some.inj H
  go_enter Try.func10, Try.ntmps10
  go_wp2
  go_ret
  exact ⟨by first | rfl | (simp; done) | (simp [*]; done), by repeat (first | exact Drawn0.refl _ | apply Drawn0.step)⟩
 ·rw [if_neg c3] at H
  have c3b0 : ((l0.length : Int) == 0) = false := beq_eq_false_iff_ne.mpr c3
  have c3b1 : ((l0.length : Int) != 0) = true := bne_iff_ne.mpr c3
  have c3b2 : ¬ (l0 = []) := fun h_ => c3 (by rw [h_]; rfl)
  obtain ⟨ji4, hji4⟩ : ∃ j_ : Int, (Int.tmod a1 (l0.length : Int)) = j_ := ⟨_, rfl⟩
  replace H : (if 0 ≤ (ji4) then (if (ji4) < (l0.length : Int) then (some (wrap64 (rd l0 (ji4)))) else (none)) else (none)) = some r := by first | (rw [hji4] at H; exact H) | (simp only [hji4] at H ⊢; exact H)
  by_cases c5 : 0 ≤ (ji4)
  ·rw [if_pos c5] at H
   have c5b0 := decide_eq_true c5
   clear c5
   by_cases c6 : (ji4) < (l0.length : Int)
   ·rw [if_pos c6] at H
    have c6b0 := decide_eq_true c6
    clear c6
    obtain rfl := Option.some.inj H
    have p159 : 0 ≤ ((ji4) : Int) := of_decide_eq_true (by first | (with_reducible assumption) | assumption)
    have q159 : (ji4) < (l0.length : Int) := of_decide_eq_true (by first | (with_reducible assumption) | assumption)
    obtain ⟨ad159, e159, hx159_0⟩ := Kd.at_int HR0.out (ji4) p159 q159
    cases e159
    replace p159 := eq_true p159
    replace q159 := eq_true q159
    go_enter Try.func10, Try.ntmps10
    go_wp2
    go_ret
    exact ⟨by first | rfl | (simp; done) | (simp only [← hji4] <;> (first | rfl | simp)) | (simp [*]; done), by repeat (first | exact Drawn0.refl _ | apply Drawn0.step)⟩
   ·rw [if_neg c6] at H
    exact absurd H (by simp)
  ·rw [if_neg c5] at H
   exact absurd H (by simp)

end Go.Proofs.Ytncebbpnmpgjiaa.PMm
end
