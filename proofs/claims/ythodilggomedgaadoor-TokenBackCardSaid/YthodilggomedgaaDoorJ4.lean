/- Texts of this work, joined: PTbx2, PTbx5. -/
import Derived.Test.YthodilggomedgaaDoorShort
import Derived.Test.YthodilggomedgaaDoorPTbx0
import Derived.Test.YthodilggomedgaaDoorJ1
section
namespace Go.Proofs.YthodilggomedgaaDoor.PTb
open Go.RowKit Go.Proofs.YthodilggomedgaaDoor.Short Go.Proofs.YthodilggomedgaaDoorW.PrintWords Go.Proofs.YthodilggomedgaaDoorW.PrintLast Go.Proofs.YthodilggomedgaaDoorW.PrintMore
attribute [local go_sem] max2_int min2_int max_two min_two max_three min_three max_four min_four   -- for this text's walks alone
set_option linter.unusedVariables false
set_option linter.unusedSimpArgs false

/-! ### api_Wrap: function 14 -/
def api_Wrap.f (a0 : Int) (a1 : Int) : Option (Option Int) := if 0 ≤ a0 ∧ a0 < 16 then some (some (a1 * 16 + a0)) else none
theorem api_Wrap.calls (a0 : Int) (a1 : Int) (r : Option Int) (w : World) (h : api_Wrap.f a0 a1 = some r) :
  Calls Tryd.prog 14 #[.int .i64 a0, .int .i64 a1] w fun e w' => e = .returned (errW r) ∧ Below w.heap.size w w' := by
 unfold api_Wrap.f at h
 split at h
 ·rename_i h1
  obtain rfl := Option.some.inj h
  have e1 : (a1 * 16 + a0) % 16 = a0 := by omega
  have e2 : (a1 * 16 + a0) / 16 = a1 := by omega
  rw [errW_some, e1, e2]
  exact Go.Proofs.YthodilggomedgaaDoor.As.wrap_calls a0 a1 w
 ·cases h

end Go.Proofs.YthodilggomedgaaDoor.PTb
end
section
namespace Go.Proofs.YthodilggomedgaaDoor.PTb
open Go.RowKit Go.Proofs.YthodilggomedgaaDoor.Short Go.Proofs.YthodilggomedgaaDoorW.PrintWords Go.Proofs.YthodilggomedgaaDoorW.PrintLast Go.Proofs.YthodilggomedgaaDoorW.PrintMore
attribute [local go_sem] max2_int min2_int max_two min_two max_three min_three max_four min_four   -- for this text's walks alone
set_option linter.unusedVariables false
set_option linter.unusedSimpArgs false

/-! ### token_part: function 15 -/
def token_part.f (a0 : Int) : Option (Bool) := (token_letter.f a0).bind fun t101 => (if t101 = true then (some true) else ((token_digit.f a0).bind fun t102 => (if t102 = true then (some true) else (if a0 = 46 then (some true) else (if a0 = 47 then (some true) else (some (a0 == 45)))))))
set_option maxHeartbeats 8000000 in
set_option maxRecDepth 100000 in
theorem token_part.calls (a0 : Int) (r : Bool) (w : World) (h : token_part.f a0 = some r) :
  Calls Tryd.prog 15 #[.int .u8 a0] w fun e w' => e = .returned (.bool r) ∧ Drawn0 w w' := by
 have H : ((token_letter.f a0).bind fun t101 => (if t101 = true then (some true) else ((token_digit.f a0).bind fun t102 => (if t102 = true then (some true) else (if a0 = 46 then (some true) else (if a0 = 47 then (some true) else (some (a0 == 45)))))))) = some r := h
 clear h
 replace H := Option.bind_eq_some_iff.mp H
 obtain ⟨t101, A20, H⟩ := H
 replace H : (if t101 = true then (some true) else ((token_digit.f a0).bind fun t102 => (if t102 = true then (some true) else (if a0 = 46 then (some true) else (if a0 = 47 then (some true) else (some (a0 == 45))))))) = some r := H
 have A2 := Aside0.mk A20
 clear A20
 by_cases c3 : t101 = true
 ·subst c3
  have H1 : (some true) = some r := by rw [if_pos rfl] at H; exact H
  clear H
  have H := H1
  clear H1
  obtain rfl := Option.some.inj H
  go_enter Tryd.func15, Tryd.ntmps15
  go_wp2_with (first | ((with_reducible refine gate_dst (N := 4) rfl ?_); refine gl (some 4) Tryd.func20 #[.int .u8 a0] ?_; (with_reducible refine (token_letter.calls a0 true _ A2.out).mono ?_); rintro e w' ⟨rfl, ⟨nd, rfl⟩⟩; refine ⟨_, rfl, ?_⟩))
  go_ret
  exact ⟨by first | rfl | (simp; done) | (simp [*]; done), by repeat (first | exact Drawn0.refl _ | apply Drawn0.step)⟩
 ·replace c3 := Bool.eq_false_iff.mpr c3
  subst c3
  have H1 : ((token_digit.f a0).bind fun t102 => (if t102 = true then (some true) else (if a0 = 46 then (some true) else (if a0 = 47 then (some true) else (some (a0 == 45)))))) = some r := by rw [if_neg (show ¬ (false = true) by decide)] at H; exact H
  clear H
  have H := H1
  clear H1
  replace H := Option.bind_eq_some_iff.mp H
  obtain ⟨t102, A40, H⟩ := H
  replace H : (if t102 = true then (some true) else (if a0 = 46 then (some true) else (if a0 = 47 then (some true) else (some (a0 == 45))))) = some r := H
  have A4 := Aside0.mk A40
  clear A40
  by_cases c5 : t102 = true
  ·subst c5
   have H1 : (some true) = some r := by rw [if_pos rfl] at H; exact H
   clear H
   have H := H1
   clear H1
   obtain rfl := Option.some.inj H
   go_enter Tryd.func15, Tryd.ntmps15
   go_wp2_with (first | ((with_reducible refine gate_dst (N := 4) rfl ?_); refine gl (some 4) Tryd.func20 #[.int .u8 a0] ?_; (with_reducible refine (token_letter.calls a0 false _ A2.out).mono ?_); rintro e w' ⟨rfl, ⟨nd, rfl⟩⟩; refine ⟨_, rfl, ?_⟩) | (go_at_call 21; (with_reducible refine (token_digit.calls a0 true _ A4.out).mono ?_); rintro e w' ⟨rfl, ⟨nd, rfl⟩⟩))
   go_ret
   exact ⟨by first | rfl | (simp; done) | (simp [*]; done), by repeat (first | exact Drawn0.refl _ | apply Drawn0.step)⟩
  ·replace c5 := Bool.eq_false_iff.mpr c5
   subst c5
   have H1 : (if a0 = 46 then (some true) else (if a0 = 47 then (some true) else (some (a0 == 45)))) = some r := by rw [if_neg (show ¬ (false = true) by decide)] at H; exact H
   clear H
   have H := H1
   clear H1
   by_cases c6 : a0 = 46
   ·rw [if_pos c6] at H
    have c6b0 : (a0 == 46) = true := beq_iff_eq.mpr c6
    have c6b1 : (a0 != 46) = false := bne_eq_false_iff_eq.mpr c6
    clear c6
    obtain rfl := Option.some.inj H
    go_enter Tryd.func15, Tryd.ntmps15
    go_wp2_with (first | ((with_reducible refine gate_dst (N := 4) rfl ?_); refine gl (some 4) Tryd.func20 #[.int .u8 a0] ?_; (with_reducible refine (token_letter.calls a0 false _ A2.out).mono ?_); rintro e w' ⟨rfl, ⟨nd, rfl⟩⟩; refine ⟨_, rfl, ?_⟩) | (go_at_call 21; (with_reducible refine (token_digit.calls a0 false _ A4.out).mono ?_); rintro e w' ⟨rfl, ⟨nd, rfl⟩⟩))
    go_ret
    exact ⟨by first | rfl | (simp; done) | (simp [*]; done), by repeat (first | exact Drawn0.refl _ | apply Drawn0.step)⟩
   ·rw [if_neg c6] at H
    have c6b0 : (a0 == 46) = false := beq_eq_false_iff_ne.mpr c6
    have c6b1 : (a0 != 46) = true := bne_iff_ne.mpr c6
    by_cases c7 : a0 = 47
    ·rw [if_pos c7] at H
     have c7b0 : (a0 == 47) = true := beq_iff_eq.mpr c7
     have c7b1 : (a0 != 47) = false := bne_eq_false_iff_eq.mpr c7
     clear c7
     obtain rfl := Option.some.inj H
     go_enter Tryd.func15, Tryd.ntmps15
     go_wp2_with (first | ((with_reducible refine gate_dst (N := 4) rfl ?_); refine gl (some 4) Tryd.func20 #[.int .u8 a0] ?_; (with_reducible refine (token_letter.calls a0 false _ A2.out).mono ?_); rintro e w' ⟨rfl, ⟨nd, rfl⟩⟩; refine ⟨_, rfl, ?_⟩) | (go_at_call 21; (with_reducible refine (token_digit.calls a0 false _ A4.out).mono ?_); rintro e w' ⟨rfl, ⟨nd, rfl⟩⟩))
     go_ret
     exact ⟨by first | rfl | (simp; done) | (simp [*]; done), by repeat (first | exact Drawn0.refl _ | apply Drawn0.step)⟩
    ·rw [if_neg c7] at H
     have c7b0 : (a0 == 47) = false := beq_eq_false_iff_ne.mpr c7
     have c7b1 : (a0 != 47) = true := bne_iff_ne.mpr c7
     obtain rfl := Option.some.inj H
     go_enter Tryd.func15, Tryd.ntmps15
     go_wp2_with (first | ((with_reducible refine gate_dst (N := 4) rfl ?_); refine gl (some 4) Tryd.func20 #[.int .u8 a0] ?_; (with_reducible refine (token_letter.calls a0 false _ A2.out).mono ?_); rintro e w' ⟨rfl, ⟨nd, rfl⟩⟩; refine ⟨_, rfl, ?_⟩) | (go_at_call 21; (with_reducible refine (token_digit.calls a0 false _ A4.out).mono ?_); rintro e w' ⟨rfl, ⟨nd, rfl⟩⟩))
     go_ret
     exact ⟨by first | rfl | (simp; done) | (simp [*]; done), by repeat (first | exact Drawn0.refl _ | apply Drawn0.step)⟩

end Go.Proofs.YthodilggomedgaaDoor.PTb
end
