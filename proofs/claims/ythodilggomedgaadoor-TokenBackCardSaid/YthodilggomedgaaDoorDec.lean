/- Plain laws: a number's digits. Nothing here names the program. -/
import Derived.Lib.AtoiAllCases
import Derived.Lib.ItoaNum
import Derived.Test.YthodilggomedgaaDoorProg
namespace Go.Proofs.YthodilggomedgaaDoor.Dec
open Go.Lib
def dv (b : UInt8) : Nat := b.toNat - 48
def isD (b : UInt8) : Prop := 48 ≤ b.toNat ∧ b.toNat ≤ 57
def valF (a : Nat) (l : List UInt8) : Nat := l.foldl (fun a b => a * 10 + dv b) a
theorem valF_pos : ∀ (l : List UInt8) (a : Nat), 0 < a → 0 < valF a l
  | [], a, h => h
  | b :: l, a, h => by
    show 0 < valF (a * 10 + dv b) l
    exact valF_pos l _ (by omega)
theorem dig_of {b : UInt8} (h : isD b) : UInt8.ofNat (48 + dv b) = b := by
  unfold isD at h
  unfold dv
  rw [show 48 + (b.toNat - 48) = b.toNat by omega]
  exact UInt8.ofNat_toNat
theorem dv_lt {b : UInt8} (h : isD b) : dv b < 10 := by unfold isD at h; unfold dv; omega
/-- Digits without a nought ahead are the digits of their value. -/
theorem dec_valN : ∀ (n : Nat) (l : List UInt8), l.length = n → l ≠ [] → (∀ b ∈ l, isD b) → (1 < l.length → l.head? ≠ some 48) → decDigits (valF 0 l) = l
  | 0, l, hn, h, _, _ => absurd (List.length_eq_zero_iff.1 hn) h
  | n + 1, l, hn, h, hd, hz => by
    obtain ⟨m, b, rfl⟩ : ∃ m b, l = m ++ [b] := ⟨l.dropLast, l.getLast h, (List.dropLast_concat_getLast h).symm⟩
    have hb := hd b (by simp)
    have hlt := dv_lt hb
    have hv : valF 0 (m ++ [b]) = valF 0 m * 10 + dv b := by simp [valF]
    have hml : m.length = n := by simpa using hn
    rw [hv]
    cases m with
    | nil =>
      show decDigits (0 * 10 + dv b) = [b]
      rw [Nat.zero_mul, Nat.zero_add, decDigits_one hlt, dig_of hb]
    | cons c r =>
      have hc := hd c (by simp)
      have hz' : c ≠ 48 := by
        intro e
        subst e
        exact hz (by simp) rfl
      have hpos : 0 < valF 0 (c :: r) := by
        show 0 < valF (0 * 10 + dv c) r
        refine valF_pos r _ ?_
        unfold isD at hc
        have : c.toNat ≠ 48 := fun e => hz' (UInt8.toNat_inj.1 e)
        unfold dv
        omega
      have ih' := dec_valN n (c :: r) hml (by simp) (fun x hx => hd x (List.mem_append_left _ hx)) (fun _ => by simpa using hz')
      rw [decDigits, dif_neg (by omega), show (valF 0 (c :: r) * 10 + dv b) / 10 = valF 0 (c :: r) by omega, show (valF 0 (c :: r) * 10 + dv b) % 10 = dv b by omega, ih', dig_of hb]
theorem dec_val (l : List UInt8) (h : l ≠ []) (hd : ∀ b ∈ l, isD b) (hz : 1 < l.length → l.head? ≠ some 48) : decDigits (valF 0 l) = l := dec_valN _ l rfl h hd hz
/-- A number's digits: what they are. -/
theorem dec_dig (n : Nat) : ∀ b ∈ decDigits n, isD b := by
  have key : ∀ d : Fin 10, 48 ≤ (UInt8.ofNat (48 + d.val)).toNat ∧ (UInt8.ofNat (48 + d.val)).toNat ≤ 57 := by decide
  induction n using Nat.strongRecOn with
  | _ n ih =>
    intro b hb
    by_cases h : n < 10
    · rw [decDigits_one h, List.mem_singleton] at hb
      subst hb
      exact key ⟨n, h⟩
    · rw [decDigits, dif_neg h] at hb
      rcases List.mem_append.1 hb with hb | hb
      · exact ih (n / 10) (by omega) b hb
      · rw [List.mem_singleton.1 hb]
        exact key ⟨n % 10, Nat.mod_lt _ (by omega)⟩
theorem val_dec (n : Nat) : valF 0 (decDigits n) = n := by
  have key : ∀ d : Fin 10, dv (UInt8.ofNat (48 + d.val)) = d.val := by decide
  induction n using Nat.strongRecOn with
  | _ n ih =>
    by_cases h : n < 10
    · rw [decDigits_one h]
      show 0 * 10 + dv (UInt8.ofNat (48 + n)) = n
      have := key ⟨n, h⟩
      simp only at this
      omega
    · rw [decDigits, dif_neg h]
      have hv : valF 0 (decDigits (n / 10) ++ [UInt8.ofNat (48 + n % 10)]) = valF 0 (decDigits (n / 10)) * 10 + dv (UInt8.ofNat (48 + n % 10)) := by simp [valF]
      have := key ⟨n % 10, Nat.mod_lt _ (by omega)⟩
      simp only at this
      rw [hv, ih (n / 10) (by omega), this]
      omega
theorem dec_ne (n : Nat) : decDigits n ≠ [] := by
  rw [decDigits]
  split <;> simp
theorem valF_lt : ∀ (l : List UInt8) (a : Nat), (∀ b ∈ l, isD b) → valF a l < (a + 1) * 10 ^ l.length
  | [], a, _ => by simp [valF]
  | b :: l, a, h => by
    have hb := dv_lt (h b (.head _))
    have ih := valF_lt l (a * 10 + dv b) (fun x hx => h x (.tail _ hx))
    show valF (a * 10 + dv b) l < _
    refine Nat.lt_of_lt_of_le ih ?_
    rw [List.length_cons, Nat.pow_succ, show (a + 1) * (10 ^ l.length * 10) = ((a + 1) * 10) * 10 ^ l.length by rw [Nat.mul_comm (10 ^ l.length) 10, Nat.mul_assoc]]
    exact Nat.mul_le_mul_right _ (by omega)
theorem valF_mono : ∀ (l : List UInt8) (a : Nat), a ≤ valF a l
  | [], a => Nat.le_refl _
  | b :: l, a => by
    have := valF_mono l (a * 10 + dv b)
    show a ≤ valF (a * 10 + dv b) l
    omega
/-- Digits of a small value are parsed as it. -/
theorem parse_val : ∀ (l : List UInt8) (a : Nat), (∀ b ∈ l, isD b) → valF a l < 1000000000000000000 → parseUint10 a l = .ok (valF a l)
  | [], a, _, _ => rfl
  | b :: l, a, h, hv => by
    have hb := h b (.head _)
    have hm := valF_mono l (a * 10 + dv b)
    have hv' : valF (a * 10 + dv b) l < 1000000000000000000 := hv
    have hd : isD b := hb
    unfold isD at hb
    rw [parseUint10, if_pos hb, if_neg (by omega), if_neg (by have : dv b = b.toNat - 48 := rfl; omega)]
    exact parse_val l (a * 10 + dv b) (fun x hx => h x (.tail _ hx)) hv'
theorem atoi_dec {n : Nat} (h : n < 1000000000000000000) : atoiAll (decDigits n) = .ok (n : Int) := by
  have hd := dec_dig n
  have hv := val_dec n
  have hne := dec_ne n
  generalize decDigits n = l at hd hv hne
  cases l with
  | nil => exact absurd rfl hne
  | cons c r =>
    have hc := hd c (.head _)
    unfold isD at hc
    rw [atoiAll_plain c r (by omega) (by omega), parseMag, if_neg (by simp), parse_val (c :: r) 0 hd (by rw [hv]; exact h), hv]
    simp only [signless]
    rw [if_neg (by omega)]
end Go.Proofs.YthodilggomedgaaDoor.Dec
