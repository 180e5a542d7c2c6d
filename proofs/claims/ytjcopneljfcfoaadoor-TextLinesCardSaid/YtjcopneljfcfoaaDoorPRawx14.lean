-- Written by wip/xprint.py of this work: the printer of the kit, with contracts of this work beside it, shortened.
import Derived.Test.YtjcopneljfcfoaaDoorShort
import Derived.Test.YtjcopneljfcfoaaDoorPRawx0
namespace Go.Proofs.YtjcopneljfcfoaaDoor.PRaw
open Go.RowKit Go.Proofs.YtjcopneljfcfoaaDoor.Short Go.Proofs.YtjcopneljfcfoaaDoorW.PrintWords Go.Proofs.YtjcopneljfcfoaaDoorW.PrintLast Go.Proofs.YtjcopneljfcfoaaDoorW.PrintMore
attribute [local go_sem] max2_int min2_int max_two min_two max_three min_three max_four min_four   -- for this text's walks alone
set_option linter.unusedVariables false
set_option linter.unusedSimpArgs false

/-! ### maquettelaw07_tags: function 31 -/
def maquettelaw07_tags.l0 : Nat → ByteArray → Int → ByteArray → Int → Option (ByteArray)
 | 0, _, _, _, _ => none
 | k + 1, x0, x1, x5, x6 => if x6 < 4 then (if 0 ≤ x6 then (if (Go.bits .and .u8 x1 (shl .u8 1 x6)) = 0 then (maquettelaw07_tags.l0 k x0 x1 x5 (wrap64 (x6 + 1))) else (if x5.size + 1 ≤ 9223372036854775807 then (if (x5 ++ (⟨#[32]⟩ : ByteArray)).size + (Utf8.encode (wrap32 (wrap64 (48 + x6)))).size ≤ 9223372036854775807 then (maquettelaw07_tags.l0 k x0 x1 ((x5 ++ (⟨#[32]⟩ : ByteArray)) ++ (Utf8.encode (wrap32 (wrap64 (48 + x6))))) (wrap64 (x6 + 1))) else (none)) else (none))) else (none)) else (if x5.toList = ([] : List UInt8) then (some x5) else (if 1 + x0.size ≤ 9223372036854775807 then (if ((⟨#[32]⟩ : ByteArray) ++ x0).size + x5.size ≤ 9223372036854775807 then (some (((⟨#[32]⟩ : ByteArray) ++ x0) ++ x5)) else (none)) else (none)))
def maquettelaw07_tags.f (k : Nat) (a0 : ByteArray) (a1 : Int) : Option (ByteArray) := maquettelaw07_tags.l0 k a0 a1 (⟨#[]⟩ : ByteArray) 0
theorem maquettelaw07_tags.mono_l : ∀ k, (∀ y0 y1 y2 y3, LeO (maquettelaw07_tags.l0 k y0 y1 y2 y3) (maquettelaw07_tags.l0 (k + 1) y0 y1 y2 y3))
 | 0 => fun _ _ _ _ r h => by simp [maquettelaw07_tags.l0] at h
 | k + 1 => by
  have ih0 := maquettelaw07_tags.mono_l k
  ·intro y0 y1 y2 y3
   unfold maquettelaw07_tags.l0
   repeat' first
   | (with_reducible exact ih0 _ _ _ _)
   | (with_reducible exact LeO.refl _)
   | (with_reducible exact LeO.none _)
   | (with_reducible refine LeO.ite ?_ ?_)
   | (with_reducible refine LeO.bind ?_ (fun _ => ?_))
   | exact ih0 _ _ _ _
   | exact LeO.none _
   | refine LeO.ite ?_ ?_
   | refine LeO.bind ?_ (fun _ => ?_)
theorem maquettelaw07_tags.mono : ∀ a0 a1 k, LeO (maquettelaw07_tags.f k a0 a1) (maquettelaw07_tags.f (k + 1) a0 a1) := by
 intro a0 a1 k
 have ih0 := maquettelaw07_tags.mono_l k
 unfold maquettelaw07_tags.f
 repeat' first
   | (with_reducible exact ih0 _ _ _ _)
   | (with_reducible exact LeO.refl _)
   | (with_reducible exact LeO.none _)
   | (with_reducible refine LeO.ite ?_ ?_)
   | (with_reducible refine LeO.bind ?_ (fun _ => ?_))
   | exact ih0 _ _ _ _
   | exact LeO.none _
   | refine LeO.ite ?_ ?_
   | refine LeO.bind ?_ (fun _ => ?_)
set_option maxHeartbeats 8000000 in
set_option maxRecDepth 100000 in
theorem maquettelaw07_tags.calls (k : Nat) (a0 : ByteArray) (a1 : Int) (r : ByteArray) (w : World) (h : maquettelaw07_tags.f k a0 a1 = some r) :
  Calls Tryd.prog 31 #[.string a0, .int .u8 a1] w fun e w' => e = .returned (.string r) ∧ Drawn0 w w' := by
 have H : (maquettelaw07_tags.l0 k a0 a1 (⟨#[]⟩ : ByteArray) 0) = some r := h
 clear h
 have H' := Aside0.mk H
 clear H
 go_enter Tryd.func31, Tryd.ntmps31
 go_wp2
 go_loopg [5, 6] k (fun kq v5 v6 w' => ∃ (x5_1 : ByteArray) (x6_1 : Int), v5 = .string x5_1 ∧ v6 = .int .i64 x6_1 ∧ Aside0 (maquettelaw07_tags.l0 kq a0 a1 x5_1 x6_1 = some r) ∧ Aside0 (kq ≤ k) ∧ Drawn0 w w')
 case atStart => exact ⟨((⟨#[]⟩ : ByteArray)), (0), (by first | rfl | (simp; done) | (simp [*]; done)), (by first | rfl | (simp; done) | (simp [*]; done)), H', ⟨Nat.le_refl _⟩, by repeat (first | exact Drawn0.refl _ | apply Drawn0.step)⟩
 case round =>
  clear H'
  try clear p2
  obtain ⟨x5_1, x6_1, rfl, rfl, HA, HK1, ⟨m1, rfl⟩⟩ := hrel
  cases gk with
  | zero => exact absurd HA.out (by simp [maquettelaw07_tags.l0])
  | succ k1 =>
   have H := HA.out
   clear HA
   simp only [maquettelaw07_tags.l0] at H
   by_cases c3 : x6_1 < 4
   ·rw [if_pos c3] at H
    have c3b0 := decide_eq_true c3
    clear c3
    by_cases c4 : 0 ≤ x6_1
    ·rw [if_pos c4] at H
     have c4b0 := eq_true c4
     have c4b1 := decide_eq_true c4
     clear c4
     obtain ⟨ji5, hji5⟩ : ∃ j_ : Int, (shl .u8 1 x6_1) = j_ := ⟨_, rfl⟩
     replace H : (if (Go.bits .and .u8 a1 (ji5)) = 0 then (maquettelaw07_tags.l0 k1 a0 a1 x5_1 (wrap64 (x6_1 + 1))) else (if x5_1.size + 1 ≤ 9223372036854775807 then (if (x5_1 ++ (⟨#[32]⟩ : ByteArray)).size + (Utf8.encode (wrap32 (wrap64 (48 + x6_1)))).size ≤ 9223372036854775807 then (maquettelaw07_tags.l0 k1 a0 a1 ((x5_1 ++ (⟨#[32]⟩ : ByteArray)) ++ (Utf8.encode (wrap32 (wrap64 (48 + x6_1))))) (wrap64 (x6_1 + 1))) else (none)) else (none))) = some r := by first | (rw [hji5] at H; exact H) | (simp only [hji5] at H ⊢; exact H)
     have hji5_ : (IntKind.u8.wrap (1 * 2 ^ min x6_1.toNat 8)) = ji5 := hji5
     have hji5z : x6_1 ≤ 8 → (IntKind.u8.wrap (1 * 2 ^ x6_1.toNat)) = ji5 := shl_small hji5
     have hji5u : (IntKind.u8.wrap (2 ^ min x6_1.toNat 8)) = ji5 := by have h_ := hji5_; rw [Int.one_mul] at h_; exact h_
     have hji5v : x6_1 ≤ 8 → (IntKind.u8.wrap (2 ^ x6_1.toNat)) = ji5 := fun hle_ => by have h_ := hji5z hle_; rw [Int.one_mul] at h_; exact h_
     by_cases c6 : (Go.bits .and .u8 a1 (ji5)) = 0
     ·rw [if_pos c6] at H
      have c6b0 : ((Go.bits .and .u8 a1 (ji5)) == 0) = true := beq_iff_eq.mpr c6
      have c6b1 : ((Go.bits .and .u8 a1 (ji5)) != 0) = false := bne_eq_false_iff_eq.mpr c6
      clear c6
      have H' := Aside0.mk H
      clear H
      go_wp2
      go_roundg k1
      case measure => have := HK1.out; omega
      case rel => exact ⟨(x5_1), (wrap64 (x6_1 + 1)), (by first | rfl | (simp; done) | (simp [*]; done)), (by first | rfl | (simp; done) | (simp [*]; done)), H', ⟨by have := HK1.out; omega⟩, by repeat (first | exact Drawn0.refl _ | apply Drawn0.step)⟩
     ·rw [if_neg c6] at H
      have c6b0 : ((Go.bits .and .u8 a1 (ji5)) == 0) = false := beq_eq_false_iff_ne.mpr c6
      have c6b1 : ((Go.bits .and .u8 a1 (ji5)) != 0) = true := bne_iff_ne.mpr c6
      by_cases c7 : x5_1.size + 1 ≤ 9223372036854775807
      ·rw [if_pos c7] at H
       have c7b0 := eq_true c7
       have c7b1 := decide_eq_true c7
       try have c7b2 := eq_false (Nat.not_lt.2 c7)
       by_cases c8 : (x5_1 ++ (⟨#[32]⟩ : ByteArray)).size + (Utf8.encode (wrap32 (wrap64 (48 + x6_1)))).size ≤ 9223372036854775807
       ·rw [if_pos c8] at H
        have c8b0 := eq_true c8
        have c8b1 := decide_eq_true c8
        try have c8b2 := eq_false (Nat.not_lt.2 c8)
        try have c8b3 : (9223372036854775807 < x5_1.size + 1 + (Utf8.encode (wrap32 (wrap64 (48 + x6_1)))).size) = False := by (have h_ := c8; simp only [ByteArray.size_append] at h_; exact eq_false (Nat.not_lt.2 h_))
        have H' := Aside0.mk H
        clear H
        go_wp2
        go_roundg k1
        case measure => have := HK1.out; omega
        case rel => exact ⟨((x5_1 ++ (⟨#[32]⟩ : ByteArray)) ++ (Utf8.encode (wrap32 (wrap64 (48 + x6_1))))), (wrap64 (x6_1 + 1)), (by first | rfl | (simp; done) | (simp [*]; done)), (by first | rfl | (simp; done) | (simp [*]; done)), H', ⟨by have := HK1.out; omega⟩, by repeat (first | exact Drawn0.refl _ | apply Drawn0.step)⟩
       ·rw [if_neg c8] at H
        exact absurd H (by simp)
      ·rw [if_neg c7] at H
       exact absurd H (by simp)
    ·rw [if_neg c4] at H
     exact absurd H (by simp)
   ·rw [if_neg c3] at H
    have c3b0 := decide_eq_false c3
    clear c3
    by_cases c9 : x5_1.toList = ([] : List UInt8)
    ·rw [if_pos c9] at H
     have c9b0 : (x5_1.toList == ([] : List UInt8)) = true := beq_iff_eq.mpr c9
     have c9b1 : (x5_1.toList != ([] : List UInt8)) = false := bne_eq_false_iff_eq.mpr c9
     clear c9
     obtain rfl := Option.some.inj H
     go_wp2
     go_ret
     exact ⟨by first | rfl | (simp; done) | (simp [*]; done), by repeat (first | exact Drawn0.refl _ | apply Drawn0.step)⟩
    ·rw [if_neg c9] at H
     have c9b0 : (x5_1.toList == ([] : List UInt8)) = false := beq_eq_false_iff_ne.mpr c9
     have c9b1 : (x5_1.toList != ([] : List UInt8)) = true := bne_iff_ne.mpr c9
     by_cases c10 : 1 + a0.size ≤ 9223372036854775807
     ·rw [if_pos c10] at H
      have c10b0 := eq_true c10
      have c10b1 := decide_eq_true c10
      try have c10b2 := eq_false (Nat.not_lt.2 c10)
      by_cases c11 : ((⟨#[32]⟩ : ByteArray) ++ a0).size + x5_1.size ≤ 9223372036854775807
      ·rw [if_pos c11] at H
       have c11b0 := eq_true c11
       have c11b1 := decide_eq_true c11
       try have c11b2 := eq_false (Nat.not_lt.2 c11)
       try have c11b3 : (9223372036854775807 < 1 + a0.size + x5_1.size) = False := by (have h_ := c11; simp only [ByteArray.size_append] at h_; exact eq_false (Nat.not_lt.2 h_))
       obtain rfl := Option.some.inj H
       go_wp2
       go_ret
       exact ⟨by first | rfl | (simp; done) | (simp [*]; done), by repeat (first | exact Drawn0.refl _ | apply Drawn0.step)⟩
      ·rw [if_neg c11] at H
       exact absurd H (by simp)
     ·rw [if_neg c10] at H
      exact absurd H (by simp)

end Go.Proofs.YtjcopneljfcfoaaDoor.PRaw
