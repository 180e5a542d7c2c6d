-- Written by wip/xprint.py of this work: the printer of the kit, with contracts of this work beside it, shortened.
import Derived.Test.YtjcopneljfcfoaaDoorShort
import Derived.Test.YtjcopneljfcfoaaDoorPRawx0
namespace Go.Proofs.YtjcopneljfcfoaaDoor.PRaw
open Go.RowKit Go.Proofs.YtjcopneljfcfoaaDoor.Short Go.Proofs.YtjcopneljfcfoaaDoorW.PrintWords Go.Proofs.YtjcopneljfcfoaaDoorW.PrintLast Go.Proofs.YtjcopneljfcfoaaDoorW.PrintMore
attribute [local go_sem] max2_int min2_int max_two min_two max_three min_three max_four min_four   -- for this text's walks alone
set_option linter.unusedVariables false
set_option linter.unusedSimpArgs false

/-! ### maquettelaw07_digits: function 24 -/
def maquettelaw07_digits.f : Nat → Int → Option (ByteArray)
 | 0, _ => none
 | k + 1, a0 => if a0 < 0 then ((maquettelaw07_digits.f k (wrap64 (-a0))).bind fun t126 => (if 1 + t126.size ≤ 9223372036854775807 then (some ((⟨#[45]⟩ : ByteArray) ++ t126)) else (none))) else (if a0 < 10 then (if 0 ≤ a0 then (if a0 ≤ (wrap64 (a0 + 1)) then (if (wrap64 (a0 + 1)) ≤ 10 then (some ((⟨#[48, 49, 50, 51, 52, 53, 54, 55, 56, 57]⟩ : ByteArray).extract (a0 : Int).toNat ((wrap64 (a0 + 1)) : Int).toNat)) else (none)) else (none)) else (none)) else ((maquettelaw07_digits.f k (wrap64 (Int.tdiv a0 10))).bind fun t127 => ((maquettelaw07_digits.f k (Int.tmod a0 10)).bind fun t128 => (if t127.size + t128.size ≤ 9223372036854775807 then (some (t127 ++ t128)) else (none)))))
theorem maquettelaw07_digits.mono_l : ∀ k, (∀ y0, LeO (maquettelaw07_digits.f k y0) (maquettelaw07_digits.f (k + 1) y0))
 | 0 => fun _ r h => by simp [maquettelaw07_digits.f] at h
 | k + 1 => by
  have ih0 := maquettelaw07_digits.mono_l k
  ·intro y0
   unfold maquettelaw07_digits.f
   repeat' first
   | (with_reducible exact ih0 _)
   | (with_reducible exact LeO.refl _)
   | (with_reducible exact LeO.none _)
   | (with_reducible refine LeO.ite ?_ ?_)
   | (with_reducible refine LeO.bind ?_ (fun _ => ?_))
   | exact ih0 _
   | exact LeO.none _
   | refine LeO.ite ?_ ?_
   | refine LeO.bind ?_ (fun _ => ?_)
theorem maquettelaw07_digits.mono : ∀ a0 k, LeO (maquettelaw07_digits.f k a0) (maquettelaw07_digits.f (k + 1) a0) := by
 intro a0 k
 have ih0 := maquettelaw07_digits.mono_l k
 exact ih0 a0
set_option maxHeartbeats 8000000 in
set_option maxRecDepth 100000 in
theorem maquettelaw07_digits.calls (k : Nat) : ∀ (a0 : Int) (r : ByteArray) (w : World) (h : maquettelaw07_digits.f k a0 = some r),
  Calls Tryd.prog 24 #[.int .i64 a0] w fun e w' => e = .returned (.string r) ∧ Drawn0 w w' := by
 induction k using Nat.strongRecOn with
 | _ k ih =>
 intro a0 r w h
 cases k with
 | zero => exact absurd h (by simp [maquettelaw07_digits.f])
 | succ k =>
 simp only [maquettelaw07_digits.f] at h
 have H : (if a0 < 0 then ((maquettelaw07_digits.f k (wrap64 (-a0))).bind fun t126 => (if 1 + t126.size ≤ 9223372036854775807 then (some ((⟨#[45]⟩ : ByteArray) ++ t126)) else (none))) else (if a0 < 10 then (if 0 ≤ a0 then (if a0 ≤ (wrap64 (a0 + 1)) then (if (wrap64 (a0 + 1)) ≤ 10 then (some ((⟨#[48, 49, 50, 51, 52, 53, 54, 55, 56, 57]⟩ : ByteArray).extract (a0 : Int).toNat ((wrap64 (a0 + 1)) : Int).toNat)) else (none)) else (none)) else (none)) else ((maquettelaw07_digits.f k (wrap64 (Int.tdiv a0 10))).bind fun t127 => ((maquettelaw07_digits.f k (Int.tmod a0 10)).bind fun t128 => (if t127.size + t128.size ≤ 9223372036854775807 then (some (t127 ++ t128)) else (none)))))) = some r := h
 clear h
 by_cases c2 : a0 < 0
 ·rw [if_pos c2] at H
  have c2b0 := decide_eq_true c2
  clear c2
  replace H := Option.bind_eq_some_iff.mp H
  obtain ⟨t126, A30, H⟩ := H
  replace H : (if 1 + t126.size ≤ 9223372036854775807 then (some ((⟨#[45]⟩ : ByteArray) ++ t126)) else (none)) = some r := H
  have A3 := Aside0.mk A30
  clear A30
  by_cases c4 : 1 + t126.size ≤ 9223372036854775807
  ·rw [if_pos c4] at H
   have c4b0 := eq_true c4
   have c4b1 := decide_eq_true c4
   try have c4b2 := eq_false (Nat.not_lt.2 c4)
   obtain rfl := Option.some.inj H
   go_enter Tryd.func24, Tryd.ntmps24
   go_wp2_with (first | ((with_reducible refine gate_dst (N := 7) rfl ?_); refine gl (some 7) Tryd.func24 #[.int .i64 (wrap64 (-a0))] ?_; (with_reducible refine (ih k (by omega) (wrap64 (-a0)) t126 _ A3.out).mono ?_); rintro e w' ⟨rfl, ⟨nd, rfl⟩⟩; refine ⟨_, rfl, ?_⟩))
   go_ret
   exact ⟨by first | rfl | (simp; done) | (simp [*]; done), by repeat (first | exact Drawn0.refl _ | apply Drawn0.step)⟩
  ·rw [if_neg c4] at H
   exact absurd H (by simp)
 ·rw [if_neg c2] at H
  have c2b0 := decide_eq_false c2
  clear c2
  by_cases c5 : a0 < 10
  ·rw [if_pos c5] at H
   have c5b0 := decide_eq_true c5
   clear c5
   by_cases c6 : 0 ≤ a0
   ·rw [if_pos c6] at H
    have c6b0 := eq_true c6
    have c6b1 := decide_eq_true c6
    clear c6
    by_cases c7 : a0 ≤ (wrap64 (a0 + 1))
    ·rw [if_pos c7] at H
     have c7b0 := eq_true c7
     have c7b1 := decide_eq_true c7
     by_cases c8 : (wrap64 (a0 + 1)) ≤ 10
     ·rw [if_pos c8] at H
      have c8b0 := eq_true c8
      have c8b1 := decide_eq_true c8
      obtain rfl := Option.some.inj H
      go_enter Tryd.func24, Tryd.ntmps24
      go_wp2
      go_ret
      exact ⟨by first | rfl | (simp; done) | (simp [*]; done), by repeat (first | exact Drawn0.refl _ | apply Drawn0.step)⟩
     ·rw [if_neg c8] at H
      exact absurd H (by simp)
    ·rw [if_neg c7] at H
     exact absurd H (by simp)
   ·rw [if_neg c6] at H
    exact absurd H (by simp)
  ·rw [if_neg c5] at H
   have c5b0 := decide_eq_false c5
   clear c5
   replace H := Option.bind_eq_some_iff.mp H
   obtain ⟨t127, A90, H⟩ := H
   replace H : ((maquettelaw07_digits.f k (Int.tmod a0 10)).bind fun t128 => (if t127.size + t128.size ≤ 9223372036854775807 then (some (t127 ++ t128)) else (none))) = some r := H
   have A9 := Aside0.mk A90
   clear A90
   replace H := Option.bind_eq_some_iff.mp H
   obtain ⟨t128, A100, H⟩ := H
   replace H : (if t127.size + t128.size ≤ 9223372036854775807 then (some (t127 ++ t128)) else (none)) = some r := H
   have A10 := Aside0.mk A100
   clear A100
   by_cases c11 : t127.size + t128.size ≤ 9223372036854775807
   ·rw [if_pos c11] at H
    have c11b0 := eq_true c11
    have c11b1 := decide_eq_true c11
    try have c11b2 := eq_false (Nat.not_lt.2 c11)
    obtain rfl := Option.some.inj H
    go_enter Tryd.func24, Tryd.ntmps24
    go_wp2_with (first | ((with_reducible refine gate_dst (N := 17) rfl ?_); refine gl (some 17) Tryd.func24 #[.int .i64 (wrap64 (Int.tdiv a0 10))] ?_; (with_reducible refine (ih k (by omega) (wrap64 (Int.tdiv a0 10)) t127 _ A9.out).mono ?_); rintro e w' ⟨rfl, ⟨nd, rfl⟩⟩; refine ⟨_, rfl, ?_⟩) | ((with_reducible refine gate_dst (N := 20) rfl ?_); refine gl (some 20) Tryd.func24 #[.int .i64 (Int.tmod a0 10)] ?_; (with_reducible refine (ih k (by omega) (Int.tmod a0 10) t128 _ A10.out).mono ?_); rintro e w' ⟨rfl, ⟨nd, rfl⟩⟩; refine ⟨_, rfl, ?_⟩))
    go_ret
    exact ⟨by first | rfl | (simp; done) | (simp [*]; done), by repeat (first | exact Drawn0.refl _ | apply Drawn0.step)⟩
   ·rw [if_neg c11] at H
    exact absurd H (by simp)

end Go.Proofs.YtjcopneljfcfoaaDoor.PRaw
