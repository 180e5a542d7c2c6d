/- Plain law: what is a name: the program's and the law's are one. -/
import Derived.Test.YthodilggomedgaaDoorPTkx6
import Derived.Test.YthodilggomedgaaDoorPTkx21
namespace Go.Proofs.YthodilggomedgaaDoor.TokM
open Go.RowKit Go.Proofs.YthodilggomedgaaDoor.PTk Go.Proofs.YthodilggomedgaaDoorW.PrintWords Go.Proofs.YthodilggomedgaaDoorW.PrintLast Go.Proofs.YthodilggomedgaaDoorW.PrintMore
set_option linter.unusedVariables false
set_option linter.unusedSimpArgs false
def lt (c : Int) : Bool := decide (97 ≤ c ∧ c ≤ 122)
def dg (c : Int) : Bool := decide (48 ≤ c ∧ c ≤ 57)
theorem letter_f (c : Int) : token_letter.f c = some (lt c) := by
  unfold token_letter.f lt
  by_cases h : c ≥ 97
  · rw [if_pos h]; simp [show (97 : Int) ≤ c from h]
  · rw [if_neg h]; simp [show ¬ (97 : Int) ≤ c from h]
theorem digit_f (c : Int) : token_digit.f c = some (dg c) := by
  unfold token_digit.f dg
  by_cases h : c ≥ 48
  · rw [if_pos h]; simp [show (48 : Int) ≤ c from h]
  · rw [if_neg h]; simp [show ¬ (48 : Int) ≤ c from h]
theorem name_step (k : Nat) (s : ByteArray) (i : Nat) (hi : i < s.size) (hs : s.size ≤ 9223372036854775807) : token_Name.l0 (k + 1) s s.size (i : Int) =
    if lt (bt s i) = true then token_Name.l0 k s s.size ((i + 1 : Nat) : Int) else if i = 0 then some false else if dg (bt s i) = true then token_Name.l0 k s s.size ((i + 1 : Nat) : Int) else if bt s i = 45 then token_Name.l0 k s s.size ((i + 1 : Nat) : Int) else some false := by
  have e1 : wrap64 ((i : Int) + 1) = ((i + 1 : Nat) : Int) := by unfold wrap64; omega
  rw [token_Name.l0, if_pos (by omega), if_pos (by omega), if_pos (by omega), letter_f, Option.bind_some, e1]
  by_cases h : lt (bt s i) = true
  · rw [if_pos h, if_pos h]
  · rw [if_neg h, if_neg h]
    by_cases h0 : i = 0
    · rw [if_pos (by omega), if_pos h0]
    · rw [if_neg (by omega), if_neg h0, digit_f, Option.bind_some]
end Go.Proofs.YthodilggomedgaaDoor.TokM
