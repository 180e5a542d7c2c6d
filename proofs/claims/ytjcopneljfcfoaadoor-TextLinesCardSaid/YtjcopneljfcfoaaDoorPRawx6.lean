-- Written by wip/xprint.py of this work: the printer of the kit, with contracts of this work beside it, shortened.
import Derived.Test.YtjcopneljfcfoaaDoorShort
import Derived.Test.YtjcopneljfcfoaaDoorPRawx0
import Derived.Test.YtjcopneljfcfoaaDoorJ2
namespace Go.Proofs.YtjcopneljfcfoaaDoor.PRaw
open Go.RowKit Go.Proofs.YtjcopneljfcfoaaDoor.Short Go.Proofs.YtjcopneljfcfoaaDoorW.PrintWords Go.Proofs.YtjcopneljfcfoaaDoorW.PrintLast Go.Proofs.YtjcopneljfcfoaaDoorW.PrintMore
attribute [local go_sem] max2_int min2_int max_two min_two max_three min_three max_four min_four   -- for this text's walks alone
set_option linter.unusedVariables false
set_option linter.unusedSimpArgs false

/-! ### text_tags: function 25 -/
def text_tags.l0 : Nat → ByteArray → Int → ByteArray → Int → Option (ByteArray)
 | 0, _, _, _, _ => none
 | k + 1, x0, x1, x5, x7 => if x7 < 4 then (if 0 ≤ x7 then (if (Go.bits .and .u8 (shr .u8 x1 x7) 1) = 1 then ((strconv_Itoa.f x7).bind fun t111 => (if 1 + t111.size ≤ 9223372036854775807 then (if x5.size + ((⟨#[32]⟩ : ByteArray) ++ t111).size ≤ 9223372036854775807 then (text_tags.l0 k x0 x1 (x5 ++ ((⟨#[32]⟩ : ByteArray) ++ t111)) (wrap64 (x7 + 1))) else (none)) else (none))) else (text_tags.l0 k x0 x1 x5 (wrap64 (x7 + 1)))) else (none)) else (if x5.toList = ([] : List UInt8) then (some (⟨#[]⟩ : ByteArray)) else (if 1 + x0.size ≤ 9223372036854775807 then (if ((⟨#[32]⟩ : ByteArray) ++ x0).size + x5.size ≤ 9223372036854775807 then (some (((⟨#[32]⟩ : ByteArray) ++ x0) ++ x5)) else (none)) else (none)))
def text_tags.f (k : Nat) (a0 : ByteArray) (a1 : Int) : Option (ByteArray) := text_tags.l0 k a0 a1 (⟨#[]⟩ : ByteArray) 0
theorem text_tags.mono_l : ∀ k, (∀ y0 y1 y2 y3, LeO (text_tags.l0 k y0 y1 y2 y3) (text_tags.l0 (k + 1) y0 y1 y2 y3))
 | 0 => fun _ _ _ _ r h => by simp [text_tags.l0] at h
 | k + 1 => by
  have ih0 := text_tags.mono_l k
  ·intro y0 y1 y2 y3
   unfold text_tags.l0
   repeat' first
   | (with_reducible exact ih0 _ _ _ _)
   | (with_reducible exact LeO.refl _)
   | (with_reducible exact LeO.none _)
   | (with_reducible refine LeO.ite ?_ ?_)
   | (with_reducible refine LeO.bind ?_ (fun _ => ?_))
   | exact ih0 _ _ _ _
   | exact LeO.none _
   | refine LeO.ite ?_ ?_
   | refine LeO.bind ?_ (fun _ => ?_)
theorem text_tags.mono : ∀ a0 a1 k, LeO (text_tags.f k a0 a1) (text_tags.f (k + 1) a0 a1) := by
 intro a0 a1 k
 have ih0 := text_tags.mono_l k
 unfold text_tags.f
 repeat' first
   | (with_reducible exact ih0 _ _ _ _)
   | (with_reducible exact LeO.refl _)
   | (with_reducible exact LeO.none _)
   | (with_reducible refine LeO.ite ?_ ?_)
   | (with_reducible refine LeO.bind ?_ (fun _ => ?_))
   | exact ih0 _ _ _ _
   | exact LeO.none _
   | refine LeO.ite ?_ ?_
   | refine LeO.bind ?_ (fun _ => ?_)
set_option maxHeartbeats 8000000 in
set_option maxRecDepth 100000 in
theorem text_tags.calls (k : Nat) (a0 : ByteArray) (a1 : Int) (r : ByteArray) (w : World) (h : text_tags.f k a0 a1 = some r) (hInv : Go.Proofs.YtjcopneljfcfoaaDoor.Inv.Inv w) :
  Calls Tryd.prog 25 #[.string a0, .int .u8 a1] w fun e w' => e = .returned (.string r) ∧ Below w.heap.size w w' := by
 have HB := Aside0.mk (Below.refl w.heap.size w)
 have H : (text_tags.l0 k a0 a1 (⟨#[]⟩ : ByteArray) 0) = some r := h
 clear h
 have H' := Aside0.mk H
 clear H
 go_enter Tryd.func25, Tryd.ntmps25
 go_wp2
 go_loopg [5, 7] k (fun kq v5 v7 w' => ∃ (x5_1 : ByteArray) (x7_1 : Int), v5 = .string x5_1 ∧ v7 = .int .i64 x7_1 ∧ Aside0 (text_tags.l0 kq a0 a1 x5_1 x7_1 = some r) ∧ Aside0 (kq ≤ k) ∧ Aside0 (Below w.heap.size w w'))
 case atStart => exact ⟨((⟨#[]⟩ : ByteArray)), (0), (by first | rfl | (simp; done) | (simp [*]; done)), (by first | rfl | (simp; done) | (simp [*]; done)), H', ⟨Nat.le_refl _⟩, ⟨by repeat (first | (with_reducible first | exact HB.out | apply below_alloc | apply pw_below_drewN | apply below_drew1) | exact HB.out)⟩⟩
 case round =>
  clear H'
  try clear c2
  try clear p2
  obtain ⟨x5_1, x7_1, rfl, rfl, HA, HK1, HB⟩ := hrel
  cases gk with
  | zero => exact absurd HA.out (by simp [text_tags.l0])
  | succ k1 =>
   have H := HA.out
   clear HA
   simp only [text_tags.l0] at H
   by_cases c3 : x7_1 < 4
   ·rw [if_pos c3] at H
    have c3b0 := decide_eq_true c3
    clear c3
    by_cases c4 : 0 ≤ x7_1
    ·rw [if_pos c4] at H
     have c4b0 := eq_true c4
     have c4b1 := decide_eq_true c4
     clear c4
     obtain ⟨ji5, hji5⟩ : ∃ j_ : Int, (shr .u8 a1 x7_1) = j_ := ⟨_, rfl⟩
     replace H : (if (Go.bits .and .u8 (ji5) 1) = 1 then ((strconv_Itoa.f x7_1).bind fun t111 => (if 1 + t111.size ≤ 9223372036854775807 then (if x5_1.size + ((⟨#[32]⟩ : ByteArray) ++ t111).size ≤ 9223372036854775807 then (text_tags.l0 k1 a0 a1 (x5_1 ++ ((⟨#[32]⟩ : ByteArray) ++ t111)) (wrap64 (x7_1 + 1))) else (none)) else (none))) else (text_tags.l0 k1 a0 a1 x5_1 (wrap64 (x7_1 + 1)))) = some r := by first | (rw [hji5] at H; exact H) | (simp only [hji5] at H ⊢; exact H)
     have hji5_ : (a1 / 2 ^ min x7_1.toNat 8) = ji5 := hji5
     have hji5z : x7_1 ≤ 8 → (a1 / 2 ^ x7_1.toNat) = ji5 := shr_small hji5
     by_cases c6 : (Go.bits .and .u8 (ji5) 1) = 1
     ·rw [if_pos c6] at H
      have c6b0 : ((Go.bits .and .u8 (ji5) 1) == 1) = true := beq_iff_eq.mpr c6
      have c6b1 : ((Go.bits .and .u8 (ji5) 1) != 1) = false := bne_eq_false_iff_eq.mpr c6
      clear c6
      replace H := Option.bind_eq_some_iff.mp H
      obtain ⟨t111, A70, H⟩ := H
      replace H : (if 1 + t111.size ≤ 9223372036854775807 then (if x5_1.size + ((⟨#[32]⟩ : ByteArray) ++ t111).size ≤ 9223372036854775807 then (text_tags.l0 k1 a0 a1 (x5_1 ++ ((⟨#[32]⟩ : ByteArray) ++ t111)) (wrap64 (x7_1 + 1))) else (none)) else (none)) = some r := H
      have A7 := Aside0.mk A70
      clear A70
      by_cases c8 : 1 + t111.size ≤ 9223372036854775807
      ·rw [if_pos c8] at H
       have c8b0 := eq_true c8
       have c8b1 := decide_eq_true c8
       try have c8b2 := eq_false (Nat.not_lt.2 c8)
       by_cases c9 : x5_1.size + ((⟨#[32]⟩ : ByteArray) ++ t111).size ≤ 9223372036854775807
       ·rw [if_pos c9] at H
        have c9b0 := eq_true c9
        have c9b1 := decide_eq_true c9
        try have c9b2 := eq_false (Nat.not_lt.2 c9)
        try have c9b3 : (9223372036854775807 < x5_1.size + (1 + t111.size)) = False := by (have h_ := c9; simp only [ByteArray.size_append] at h_; exact eq_false (Nat.not_lt.2 h_))
        have H' := Aside0.mk H
        clear H
        go_wp2_with (first | ((with_reducible refine gate_dst (N := 17) rfl ?_); refine gl (some 17) Tryd.func29 #[.int .i64 x7_1] ?_; (with_reducible refine (strconv_Itoa.calls x7_1 t111 _ A7.out (Go.Proofs.YtjcopneljfcfoaaDoor.Inv.ivb hInv)).mono ?_); rintro e w10 ⟨rfl, hb⟩; refine ⟨_, rfl, ?_⟩; replace HB := bst hb; (try clear hb); (try clear hb2); (try clear hk); (try clear hi)))
        go_roundg k1
        case measure => have := HK1.out; omega
        case rel => exact ⟨(x5_1 ++ ((⟨#[32]⟩ : ByteArray) ++ t111)), (wrap64 (x7_1 + 1)), (by first | rfl | (simp; done) | (simp [*]; done)), (by first | rfl | (simp; done) | (simp [*]; done)), H', ⟨by have := HK1.out; omega⟩, ⟨by repeat (first | (with_reducible first | exact HB.out | apply below_alloc | apply pw_below_drewN | apply below_drew1) | exact HB.out)⟩⟩
       ·rw [if_neg c9] at H
        exact absurd H (by simp)
      ·rw [if_neg c8] at H
       exact absurd H (by simp)
     ·rw [if_neg c6] at H
      have c6b0 : ((Go.bits .and .u8 (ji5) 1) == 1) = false := beq_eq_false_iff_ne.mpr c6
      have c6b1 : ((Go.bits .and .u8 (ji5) 1) != 1) = true := bne_iff_ne.mpr c6
      have H' := Aside0.mk H
      clear H
      go_wp2
      go_roundg k1
      case measure => have := HK1.out; omega
      case rel => exact ⟨(x5_1), (wrap64 (x7_1 + 1)), (by first | rfl | (simp; done) | (simp [*]; done)), (by first | rfl | (simp; done) | (simp [*]; done)), H', ⟨by have := HK1.out; omega⟩, ⟨by repeat (first | (with_reducible first | exact HB.out | apply below_alloc | apply pw_below_drewN | apply below_drew1) | exact HB.out)⟩⟩
    ·rw [if_neg c4] at H
     exact absurd H (by simp)
   ·rw [if_neg c3] at H
    have c3b0 := decide_eq_false c3
    clear c3
    by_cases c11 : x5_1.toList = ([] : List UInt8)
    ·rw [if_pos c11] at H
     have c11b0 : (x5_1.toList == ([] : List UInt8)) = true := beq_iff_eq.mpr c11
     have c11b1 : (x5_1.toList != ([] : List UInt8)) = false := bne_eq_false_iff_eq.mpr c11
     clear c11
     obtain rfl := Option.some.inj H
     go_wp2
     go_ret
     exact ⟨by first | rfl | (simp [errW_none, errW_some] <;> rfl) | (simp [*, errW_none, errW_some] <;> rfl), by repeat (first | (with_reducible first | exact HB.out | apply below_alloc | apply pw_below_drewN | apply below_drew1) | exact HB.out)⟩
    ·rw [if_neg c11] at H
     have c11b0 : (x5_1.toList == ([] : List UInt8)) = false := beq_eq_false_iff_ne.mpr c11
     have c11b1 : (x5_1.toList != ([] : List UInt8)) = true := bne_iff_ne.mpr c11
     by_cases c12 : 1 + a0.size ≤ 9223372036854775807
     ·rw [if_pos c12] at H
      have c12b0 := eq_true c12
      have c12b1 := decide_eq_true c12
      try have c12b2 := eq_false (Nat.not_lt.2 c12)
      by_cases c13 : ((⟨#[32]⟩ : ByteArray) ++ a0).size + x5_1.size ≤ 9223372036854775807
      ·rw [if_pos c13] at H
       have c13b0 := eq_true c13
       have c13b1 := decide_eq_true c13
       try have c13b2 := eq_false (Nat.not_lt.2 c13)
       try have c13b3 : (9223372036854775807 < 1 + a0.size + x5_1.size) = False := by (have h_ := c13; simp only [ByteArray.size_append] at h_; exact eq_false (Nat.not_lt.2 h_))
       obtain rfl := Option.some.inj H
       go_wp2
       go_ret
       exact ⟨by first | rfl | (simp [errW_none, errW_some] <;> rfl) | (simp [*, errW_none, errW_some] <;> rfl), by repeat (first | (with_reducible first | exact HB.out | apply below_alloc | apply pw_below_drewN | apply below_drew1) | exact HB.out)⟩
      ·rw [if_neg c13] at H
       exact absurd H (by simp)
     ·rw [if_neg c12] at H
      exact absurd H (by simp)

end Go.Proofs.YtjcopneljfcfoaaDoor.PRaw
