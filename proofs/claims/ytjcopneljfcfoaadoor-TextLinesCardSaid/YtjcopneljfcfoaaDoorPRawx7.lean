-- Written by wip/xprint.py of this work: the printer of the kit, with contracts of this work beside it, shortened.
import Derived.Test.YtjcopneljfcfoaaDoorShort
import Derived.Test.YtjcopneljfcfoaaDoorPRawx0
import Derived.Test.YtjcopneljfcfoaaDoorJ2
namespace Go.Proofs.YtjcopneljfcfoaaDoor.PRaw
open Go.RowKit Go.Proofs.YtjcopneljfcfoaaDoor.Short Go.Proofs.YtjcopneljfcfoaaDoorW.PrintWords Go.Proofs.YtjcopneljfcfoaaDoorW.PrintLast Go.Proofs.YtjcopneljfcfoaaDoorW.PrintMore
attribute [local go_sem] max2_int min2_int max_two min_two max_three min_three max_four min_four   -- for this text's walks alone
set_option linter.unusedVariables false
set_option linter.unusedSimpArgs false

/-! ### text_number: function 26 -/
def text_number.f (a0 : ByteArray) (a1 : Int) : Option (ByteArray) := if a1 = 0 then (some (⟨#[]⟩ : ByteArray)) else (if 1 + a0.size ≤ 9223372036854775807 then (if ((⟨#[32]⟩ : ByteArray) ++ a0).size + 1 ≤ 9223372036854775807 then ((strconv_Itoa.f a1).bind fun t112 => (if (((⟨#[32]⟩ : ByteArray) ++ a0) ++ (⟨#[32]⟩ : ByteArray)).size + t112.size ≤ 9223372036854775807 then (some ((((⟨#[32]⟩ : ByteArray) ++ a0) ++ (⟨#[32]⟩ : ByteArray)) ++ t112)) else (none))) else (none)) else (none))
set_option maxHeartbeats 8000000 in
set_option maxRecDepth 100000 in
theorem text_number.calls (a0 : ByteArray) (a1 : Int) (r : ByteArray) (w : World) (h : text_number.f a0 a1 = some r) (hInv : Go.Proofs.YtjcopneljfcfoaaDoor.Inv.Inv w) :
  Calls Tryd.prog 26 #[.string a0, .int .i64 a1] w fun e w' => e = .returned (.string r) ∧ Below w.heap.size w w' := by
 have HB := Aside0.mk (Below.refl w.heap.size w)
 have H : (if a1 = 0 then (some (⟨#[]⟩ : ByteArray)) else (if 1 + a0.size ≤ 9223372036854775807 then (if ((⟨#[32]⟩ : ByteArray) ++ a0).size + 1 ≤ 9223372036854775807 then ((strconv_Itoa.f a1).bind fun t112 => (if (((⟨#[32]⟩ : ByteArray) ++ a0) ++ (⟨#[32]⟩ : ByteArray)).size + t112.size ≤ 9223372036854775807 then (some ((((⟨#[32]⟩ : ByteArray) ++ a0) ++ (⟨#[32]⟩ : ByteArray)) ++ t112)) else (none))) else (none)) else (none))) = some r := h
 clear h
 by_cases c3 : a1 = 0
 ·rw [if_pos c3] at H
  have c3b0 : (a1 == 0) = true := beq_iff_eq.mpr c3
  have c3b1 : (a1 != 0) = false := bne_eq_false_iff_eq.mpr c3
  clear c3
  obtain rfl := Option.some.inj H
  go_enter Tryd.func26, Tryd.ntmps26
  go_wp2
  go_ret
  exact ⟨by first | rfl | (simp [errW_none, errW_some] <;> rfl) | (simp [*, errW_none, errW_some] <;> rfl), by repeat (first | (with_reducible first | exact HB.out | apply below_alloc | apply pw_below_drewN | apply below_drew1) | exact HB.out)⟩
 ·rw [if_neg c3] at H
  have c3b0 : (a1 == 0) = false := beq_eq_false_iff_ne.mpr c3
  have c3b1 : (a1 != 0) = true := bne_iff_ne.mpr c3
  by_cases c4 : 1 + a0.size ≤ 9223372036854775807
  ·rw [if_pos c4] at H
   have c4b0 := eq_true c4
   have c4b1 := decide_eq_true c4
   try have c4b2 := eq_false (Nat.not_lt.2 c4)
   by_cases c5 : ((⟨#[32]⟩ : ByteArray) ++ a0).size + 1 ≤ 9223372036854775807
   ·rw [if_pos c5] at H
    have c5b0 := eq_true c5
    have c5b1 := decide_eq_true c5
    try have c5b2 := eq_false (Nat.not_lt.2 c5)
    try have c5b3 : (9223372036854775807 < 1 + a0.size + 1) = False := by (have h_ := c5; simp only [ByteArray.size_append] at h_; exact eq_false (Nat.not_lt.2 h_))
    replace H := Option.bind_eq_some_iff.mp H
    obtain ⟨t112, A60, H⟩ := H
    replace H : (if (((⟨#[32]⟩ : ByteArray) ++ a0) ++ (⟨#[32]⟩ : ByteArray)).size + t112.size ≤ 9223372036854775807 then (some ((((⟨#[32]⟩ : ByteArray) ++ a0) ++ (⟨#[32]⟩ : ByteArray)) ++ t112)) else (none)) = some r := H
    have A6 := Aside0.mk A60
    clear A60
    by_cases c7 : (((⟨#[32]⟩ : ByteArray) ++ a0) ++ (⟨#[32]⟩ : ByteArray)).size + t112.size ≤ 9223372036854775807
    ·rw [if_pos c7] at H
     have c7b0 := eq_true c7
     have c7b1 := decide_eq_true c7
     try have c7b2 := eq_false (Nat.not_lt.2 c7)
     try have c7b3 : (9223372036854775807 < 1 + a0.size + 1 + t112.size) = False := by (have h_ := c7; simp only [ByteArray.size_append] at h_; exact eq_false (Nat.not_lt.2 h_))
     obtain rfl := Option.some.inj H
     go_enter Tryd.func26, Tryd.ntmps26
     go_wp2_with (first | ((with_reducible refine gate_dst (N := 11) rfl ?_); refine gl (some 11) Tryd.func29 #[.int .i64 a1] ?_; (with_reducible refine (strconv_Itoa.calls a1 t112 _ A6.out (Go.Proofs.YtjcopneljfcfoaaDoor.Inv.ivb hInv)).mono ?_); rintro e w8 ⟨rfl, hb⟩; refine ⟨_, rfl, ?_⟩; replace HB := bst hb; (try clear hb); (try clear hb2); (try clear hk); (try clear hi)))
     go_ret
     exact ⟨by first | rfl | (simp [errW_none, errW_some] <;> rfl) | (simp [*, errW_none, errW_some] <;> rfl), by repeat (first | (with_reducible first | exact HB.out | apply below_alloc | apply pw_below_drewN | apply below_drew1) | exact HB.out)⟩
    ·rw [if_neg c7] at H
     exact absurd H (by simp)
   ·rw [if_neg c5] at H
    exact absurd H (by simp)
  ·rw [if_neg c4] at H
   exact absurd H (by simp)

end Go.Proofs.YtjcopneljfcfoaaDoor.PRaw
