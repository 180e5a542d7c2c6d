/- Plain law: a piece of a text: the program and the law tell one and the same of it. -/
import Derived.Test.YthodilggomedgaaDoorTokM
import Derived.Test.YthodilggomedgaaDoorJ3
import Derived.Test.YthodilggomedgaaDoorPTkx15
import Derived.Test.YthodilggomedgaaDoorPTkx22
namespace Go.Proofs.YthodilggomedgaaDoor.TokP
open Go.RowKit Go.Proofs.YthodilggomedgaaDoor.PTk Go.Proofs.YthodilggomedgaaDoorW.PrintWords Go.Proofs.YthodilggomedgaaDoorW.PrintLast Go.Proofs.YthodilggomedgaaDoorW.PrintMore Go.Proofs.YthodilggomedgaaDoor.Dec Go.Proofs.YthodilggomedgaaDoor.TokM
set_option linter.unusedVariables false
set_option linter.unusedSimpArgs false
def numP (s : ByteArray) : Option Pc := (strconv_Atoi.f s).bind (fun bt127 => (if bt127.2.isNone = true then (if bt127.1 < 0 then some failT else (if bt127.1 > 999999 then some failT else ((strconv_Itoa.f bt127.1).bind fun t130 => (if t130.toList = s.toList then some ((2, s, bt127.1, 0, 0, 0, true) : Pc) else some failT)))) else some failT))
theorem dec_len : ∀ (k n : Nat), n < 10 ^ (k + 1) → (Lib.decDigits n).length ≤ k + 1
  | 0, n, h => by
    rw [Lib.decDigits_one (by simpa using h)]
    simp
  | k + 1, n, h => by
    by_cases h1 : n < 10
    · rw [Lib.decDigits_one h1]
      simp
    · rw [Lib.decDigits, dif_neg h1, List.length_append]
      have := dec_len k (n / 10) (by
        have : 10 ^ (k + 1 + 1) = 10 * 10 ^ (k + 1) := by rw [Nat.pow_succ, Nat.mul_comm]
        omega)
      simp only [List.length_singleton]
      omega
theorem dec_head (n : Nat) (h : 1 ≤ n) : (Lib.decDigits n).head? ≠ some 48 := by
  have key : ∀ d : Fin 10, 1 ≤ d.val → UInt8.ofNat (48 + d.val) ≠ 48 := by decide
  induction n using Nat.strongRecOn with
  | _ n ih =>
    by_cases h1 : n < 10
    · rw [Lib.decDigits_one h1]
      intro e
      exact key ⟨n, h1⟩ h (Option.some.inj e)
    · rw [Lib.decDigits, dif_neg h1]
      have := ih (n / 10) (by omega) (by omega)
      cases hd : Lib.decDigits (n / 10) with
      | nil => exact absurd hd (dec_ne _)
      | cons c r =>
        rw [hd] at this
        exact this
theorem ok_len {n : Nat} (h : n ≤ 999999) : (Lib.decDigits n).length ≤ 6 ∧ (1 < (Lib.decDigits n).length → (Lib.decDigits n).head? ≠ some 48) := by
  refine ⟨dec_len 5 n (by omega), fun h1 => ?_⟩
  by_cases h0 : n = 0
  · subst h0
    rw [Lib.decDigits_one (by omega)] at h1
    simp at h1
  · exact dec_head n (by omega)
theorem atoi_ok {s : ByteArray} {v : Int} (hs : s.size ≤ 1000000) (h : Lib.atoiAll s.data.toList = .ok v) : strconv_Atoi.f s = some (v, none) := by
  unfold strconv_Atoi.f
  rw [if_pos (by omega)]
  simp only [h]
theorem atoi_syn {s : ByteArray} (hs : s.size ≤ 1000000) (h : Lib.atoiAll s.data.toList = .«syntax») : strconv_Atoi.f s = some (0, some 0) := by
  unfold strconv_Atoi.f
  rw [if_pos (by omega)]
  simp only [h]
theorem atoi_range {s : ByteArray} (hs : s.size ≤ 1000000) (h : Lib.atoiAll s.data.toList = .range) : strconv_Atoi.f s = some (Lib.atoiSat s.data.toList, some 0) := by
  unfold strconv_Atoi.f
  rw [if_pos (by omega)]
  simp only [h]
theorem num_p (s : ByteArray) (hs : s.size ≤ 1000000) : ∃ r : Pc, ((okNum s.data.toList ∧ r = ((2, s, ((valF 0 s.data.toList : Nat) : Int), 0, 0, 0, true) : Pc)) ∨ (¬ okNum s.data.toList ∧ r = failT)) ∧ numP s = some r := by
  have hit : ∀ n : Nat, n ≤ 999999 → strconv_Itoa.f (n : Int) = some ⟨(Lib.decDigits n).toArray⟩ := by
    intro n hn
    unfold strconv_Itoa.f Lib.itoa
    rw [if_pos (by omega), if_neg (by omega), Int.toNat_natCast]
  have hcmp : ∀ n : Nat, ((⟨(Lib.decDigits n).toArray⟩ : ByteArray).toList = s.toList) = (Lib.decDigits n = s.data.toList) := by
    intro n
    rw [ByteArray.toList_eq, ByteArray.toList_eq]
  by_cases hok : okNum s.data.toList
  · have hok0 := hok
    obtain ⟨h1, h2, h3, h4⟩ := hok
    have hv := valF_lt s.data.toList 0 h2
    have hpow : 10 ^ s.data.toList.length ≤ 10 ^ 6 := Nat.pow_le_pow_right (by omega) h3
    have hv6 : valF 0 s.data.toList < 1000000 := by
      have : (10 : Nat) ^ 6 = 1000000 := rfl
      omega
    have hd := dec_val s.data.toList h1 h2 h4
    have ha := atoi_dec (n := valF 0 s.data.toList) (by omega)
    rw [hd] at ha
    refine ⟨_, Or.inl ⟨hok0, rfl⟩, ?_⟩
    unfold numP
    rw [atoi_ok hs ha]
    simp only [Option.bind_some, Option.isNone_none]
    rw [if_pos trivial, if_neg (by omega), if_neg (by omega), hit _ (by omega), Option.bind_some]
    simp only [hcmp]
    rw [if_pos hd]
  · refine ⟨failT, Or.inr ⟨hok, rfl⟩, ?_⟩
    unfold numP
    cases ha : Lib.atoiAll s.data.toList with
    | «syntax» => rw [atoi_syn hs ha]; rfl
    | range => rw [atoi_range hs ha]; rfl
    | ok v =>
      rw [atoi_ok hs ha]
      simp only [Option.bind_some, Option.isNone_none]
      rw [if_pos trivial]
      by_cases v0 : v < 0
      · rw [if_pos v0]
      · rw [if_neg v0]
        by_cases v9 : v > 999999
        · rw [if_pos v9]
        · rw [if_neg v9]
          obtain ⟨n, rfl⟩ : ∃ n : Nat, v = n := ⟨v.toNat, by omega⟩
          rw [hit n (by omega), Option.bind_some]
          simp only [hcmp]
          rw [if_neg]
          intro e
          apply hok
          rw [← e]
          exact ⟨dec_ne n, dec_dig n, (ok_len (by omega)).1, (ok_len (by omega)).2⟩
end Go.Proofs.YthodilggomedgaaDoor.TokP
