/- Plain law: what is a name: the program's and the law's are one. -/
import Derived.Test.YthodilggomedgaaDoorPTbx6
import Derived.Test.YthodilggomedgaaDoorPTbx20
namespace Go.Proofs.YthodilggomedgaaDoor.BkM
open Go.RowKit Go.Proofs.YthodilggomedgaaDoor.PTb Go.Proofs.YthodilggomedgaaDoorW.PrintWords Go.Proofs.YthodilggomedgaaDoorW.PrintLast Go.Proofs.YthodilggomedgaaDoorW.PrintMore
set_option linter.unusedVariables false
set_option linter.unusedSimpArgs false
def lt (c : Int) : Bool := decide (97 ≤ c ∧ c ≤ 122)
def dg (c : Int) : Bool := decide (48 ≤ c ∧ c ≤ 57)
theorem letter_f (c : Int) : token_letter.f c = some (lt c) := by
  unfold token_letter.f lt
  by_cases h : c ≥ 97
  · rw [if_pos h]; simp [show (97 : Int) ≤ c from h]
  · rw [if_neg h]; simp [show ¬ (97 : Int) ≤ c from h]
theorem digit_f (c : Int) : token_digit.f c = some (dg c) := by
  unfold token_digit.f dg
  by_cases h : c ≥ 48
  · rw [if_pos h]; simp [show (48 : Int) ≤ c from h]
  · rw [if_neg h]; simp [show ¬ (48 : Int) ≤ c from h]
theorem name_step (k : Nat) (s : ByteArray) (i : Nat) (hi : i < s.size) (hs : s.size ≤ 9223372036854775807) : token_Name.l0 (k + 1) s s.size (i : Int) =
    if lt (bt s i) = true then token_Name.l0 k s s.size ((i + 1 : Nat) : Int) else if i = 0 then some false else if dg (bt s i) = true then token_Name.l0 k s s.size ((i + 1 : Nat) : Int) else if bt s i = 45 then token_Name.l0 k s s.size ((i + 1 : Nat) : Int) else some false := by
  have e1 : wrap64 ((i : Int) + 1) = ((i + 1 : Nat) : Int) := by unfold wrap64; omega
  rw [token_Name.l0, if_pos (by omega), if_pos (by omega), if_pos (by omega), letter_f, Option.bind_some, e1]
  by_cases h : lt (bt s i) = true
  · rw [if_pos h, if_pos h]
  · rw [if_neg h, if_neg h]
    by_cases h0 : i = 0
    · rw [if_pos (by omega), if_pos h0]
    · rw [if_neg (by omega), if_neg h0, digit_f, Option.bind_some]
theorem law_step (k : Nat) (s : ByteArray) (i : Nat) (hi : i < s.size) (hs : s.size ≤ 9223372036854775807) : maquettelaw06_name.l0 (k + 1) s (i : Int) =
    if lt (bt s i) = true then maquettelaw06_name.l0 k s ((i + 1 : Nat) : Int) else if i = 0 then some false else if dg (bt s i) = true then maquettelaw06_name.l0 k s ((i + 1 : Nat) : Int) else if bt s i = 45 then maquettelaw06_name.l0 k s ((i + 1 : Nat) : Int) else some false := by
  have e1 : wrap64 ((i : Int) + 1) = ((i + 1 : Nat) : Int) := by unfold wrap64; omega
  rw [maquettelaw06_name.l0, if_pos (by omega), if_pos (by omega), e1]
  unfold lt dg
  generalize bt s i = c
  by_cases h0 : i = 0
  · subst h0
    by_cases a : c ≥ 97 <;> by_cases b : c ≤ 122 <;> simp [a, b, show ((97 : Int) ≤ c) = (c ≥ 97) from rfl]
  · have h0' : ¬ ((i : Int) = 0) := by omega
    by_cases a : c ≥ 97
    · by_cases b : c ≤ 122
      · simp [a, b, show ((97 : Int) ≤ c) = (c ≥ 97) from rfl]
      · have d : ¬ (c ≤ 57) := by omega
        have e : ¬ (c = 45) := by omega
        have f : c ≥ 48 := by omega
        simp [a, b, d, e, f, h0, h0', show ((97 : Int) ≤ c) = (c ≥ 97) from rfl, show ((48 : Int) ≤ c) = (c ≥ 48) from rfl]
    · by_cases e : c = 45
      · subst e
        simp [h0, h0']
      · by_cases f : c ≥ 48
        · by_cases d : c ≤ 57
          · simp [a, d, e, f, h0, h0', show ((97 : Int) ≤ c) = (c ≥ 97) from rfl, show ((48 : Int) ≤ c) = (c ≥ 48) from rfl]
          · simp [a, d, e, f, h0, h0', show ((97 : Int) ≤ c) = (c ≥ 97) from rfl, show ((48 : Int) ≤ c) = (c ≥ 48) from rfl]
        · simp [a, e, f, h0, h0', show ((97 : Int) ≤ c) = (c ≥ 97) from rfl, show ((48 : Int) ≤ c) = (c ≥ 48) from rfl]
theorem name_l0 (s : ByteArray) (hs : s.size ≤ 9223372036854775807) : ∀ d k (i : Nat), i + d = s.size → d < k → ∃ r, token_Name.l0 k s s.size (i : Int) = some r ∧ maquettelaw06_name.l0 k s (i : Int) = some r
  | 0, k, i, h1, h2 => by
    obtain ⟨k, rfl⟩ : ∃ q, k = q + 1 := ⟨k - 1, by omega⟩
    rw [token_Name.l0, maquettelaw06_name.l0]
    have e1 : ¬ ((i : Int) < (s.size : Int)) := by omega
    rw [if_neg e1, if_neg e1]
    by_cases h : (s.size : Int) > 0
    · rw [if_pos h, if_pos (by omega : (s.size : Int) ≥ 1)]
      exact ⟨_, rfl, rfl⟩
    · rw [if_neg h, if_neg (by omega : ¬ (s.size : Int) ≥ 1)]
      exact ⟨_, rfl, rfl⟩
  | d + 1, k, i, h1, h2 => by
    obtain ⟨k, rfl⟩ : ∃ q, k = q + 1 := ⟨k - 1, by omega⟩
    obtain ⟨r, p, q⟩ := name_l0 s hs d k (i + 1) (by omega) (by omega)
    rw [name_step k s i (by omega) hs, law_step k s i (by omega) hs, p, q]
    split
    · exact ⟨_, rfl, rfl⟩
    · split
      · exact ⟨_, rfl, rfl⟩
      · split
        · exact ⟨_, rfl, rfl⟩
        · split
          · exact ⟨_, rfl, rfl⟩
          · exact ⟨_, rfl, rfl⟩
end Go.Proofs.YthodilggomedgaaDoor.BkM
