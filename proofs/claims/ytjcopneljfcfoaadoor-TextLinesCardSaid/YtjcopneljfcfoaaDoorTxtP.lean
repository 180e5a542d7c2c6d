/- Plain law: a clause's line as text and as the law tells it are the same. -/
import Derived.Test.YtjcopneljfcfoaaDoorPRawx8
import Derived.Test.YtjcopneljfcfoaaDoorPRawx16
namespace Go.Proofs.YtjcopneljfcfoaaDoor.TxtP
open Go.RowKit Go.Proofs.YtjcopneljfcfoaaDoor.PRaw Go.Proofs.YtjcopneljfcfoaaDoorW.PrintWords Go.Proofs.YtjcopneljfcfoaaDoorW.PrintLast Go.Proofs.YtjcopneljfcfoaaDoorW.PrintMore
set_option linter.unusedVariables false
set_option linter.unusedSimpArgs false
theorem ext_data {a b : ByteArray} (h : a.data = b.data) : a = b := by
  cases a; cases b; simpa using h
theorem toList_eq (a : ByteArray) : a.toList = a.data.toList := ByteArray.toList_eq a
theorem nil_of {a : ByteArray} (h : a.toList = []) : a = ⟨#[]⟩ := by
  rw [toList_eq] at h
  apply ext_data
  exact Array.toList_eq_nil_iff.1 h
theorem assoc (a b c : ByteArray) : a ++ b ++ c = a ++ (b ++ c) := by
  apply ext_data
  simp [Array.append_assoc]
theorem size_app (a b : ByteArray) : (a ++ b).size = a.size + b.size := ByteArray.size_append
theorem app_nil (a : ByteArray) : a ++ ⟨#[]⟩ = a := by
  apply ext_data
  simp
theorem nil_app (a : ByteArray) : (⟨#[]⟩ : ByteArray) ++ a = a := by
  apply ext_data
  simp
/-! ### tags -/
def cc (b i : Nat) : Bool := decide (Go.bits .and .u8 (shr .u8 (b : Int) (i : Int)) 1 = 1)
theorem cc_law : ∀ b : Fin 256, ∀ i : Fin 4, (decide (Go.bits .and .u8 (b.val : Int) (shl .u8 1 (i.val : Int)) = 0)) = !cc b.val i.val := by decide +kernel
def dig (i : Nat) : ByteArray := ⟨#[UInt8.ofNat (48 + i)]⟩
theorem itoa_dig : ∀ i : Fin 4, strconv_Itoa.f (i.val : Int) = some (dig i.val) := by decide +kernel
theorem enc_dig : ∀ i : Fin 4, Utf8.encode (wrap32 (wrap64 (48 + (i.val : Int)))) = dig i.val := by decide +kernel
theorem dig_size (i : Nat) : (dig i).size = 1 := rfl
theorem one32 : (⟨#[32]⟩ : ByteArray).size = 1 := rfl
theorem w64s {n : Int} (h0 : 0 ≤ n) (h1 : n < 9223372036854775808) : wrap64 n = n := by unfold wrap64; omega
theorem t_end (w x : ByteArray) (b : Int) (k i : Nat) (hi : ¬ i < 4) (hw : w.size ≤ 1000) (hx : x.size ≤ 1000) : text_tags.l0 (k + 1) w b x (i : Int) = some (if x.toList = [] then ⟨#[]⟩ else ⟨#[32]⟩ ++ w ++ x) := by
  rw [text_tags.l0, if_neg (by omega)]
  by_cases h : x.toList = []
  · rw [if_pos h, if_pos h]
  · rw [if_neg h, if_neg h, if_pos (by omega), if_pos (by rw [size_app, one32]; omega)]
theorem m_end (w x : ByteArray) (b : Int) (k i : Nat) (hi : ¬ i < 4) (hw : w.size ≤ 1000) (hx : x.size ≤ 1000) : maquettelaw07_tags.l0 (k + 1) w b x (i : Int) = some (if x.toList = [] then ⟨#[]⟩ else ⟨#[32]⟩ ++ w ++ x) := by
  rw [maquettelaw07_tags.l0, if_neg (by omega)]
  by_cases h : x.toList = []
  · rw [if_pos h, if_pos h, nil_of h]
  · rw [if_neg h, if_neg h, if_pos (by omega), if_pos (by rw [size_app, one32]; omega)]
theorem t_step (w x : ByteArray) (b k i : Nat) (hi : i < 4) (hx : x.size ≤ 1000) : text_tags.l0 (k + 1) w (b : Int) x (i : Int) = if cc b i = true then text_tags.l0 k w (b : Int) (x ++ (⟨#[32]⟩ ++ dig i)) ((i + 1 : Nat) : Int) else text_tags.l0 k w (b : Int) x ((i + 1 : Nat) : Int) := by
  have e1 : wrap64 ((i : Int) + 1) = ((i + 1 : Nat) : Int) := by rw [w64s (by omega) (by omega)]; omega
  have hit := itoa_dig ⟨i, hi⟩
  simp only at hit
  rw [text_tags.l0, if_pos (by omega), if_pos (by omega), e1]
  by_cases hc : cc b i = true
  · rw [if_pos (of_decide_eq_true hc), if_pos hc, hit, Option.bind_some, if_pos (by rw [dig_size]; omega), if_pos (by rw [size_app, one32, dig_size]; omega)]
  · rw [if_neg (fun h => hc (decide_eq_true h)), if_neg hc]
theorem m_step (w x : ByteArray) (b k i : Nat) (hb : b < 256) (hi : i < 4) (hx : x.size ≤ 1000) : maquettelaw07_tags.l0 (k + 1) w (b : Int) x (i : Int) = if cc b i = true then maquettelaw07_tags.l0 k w (b : Int) (x ++ (⟨#[32]⟩ ++ dig i)) ((i + 1 : Nat) : Int) else maquettelaw07_tags.l0 k w (b : Int) x ((i + 1 : Nat) : Int) := by
  have e1 : wrap64 ((i : Int) + 1) = ((i + 1 : Nat) : Int) := by rw [w64s (by omega) (by omega)]; omega
  have hcl := cc_law ⟨b, hb⟩ ⟨i, hi⟩
  have hen := enc_dig ⟨i, hi⟩
  simp only at hcl hen
  rw [maquettelaw07_tags.l0, if_pos (by omega), if_pos (by omega), e1]
  by_cases hc : cc b i = true
  · rw [if_neg (by rw [hc] at hcl; exact of_decide_eq_false hcl), if_pos hc, hen, if_pos (by omega), if_pos (by rw [size_app, one32, dig_size]; omega), assoc]
  · have hc' : cc b i = false := by simpa using hc
    rw [if_pos (by rw [hc'] at hcl; exact of_decide_eq_true hcl), if_neg hc]
theorem tags_l0 (w : ByteArray) (hw : w.size ≤ 1000) (b : Nat) (hb : b < 256) : ∀ d k (i : Nat) (x : ByteArray), i + d = 4 → d < k → x.size ≤ 2 * i →
    ∃ t, text_tags.l0 k w (b : Int) x (i : Int) = some t ∧ maquettelaw07_tags.l0 k w (b : Int) x (i : Int) = some t ∧ t.size ≤ w.size + 9
  | 0, k, i, x, h1, h2, h3 => by
    obtain ⟨k, rfl⟩ : ∃ q, k = q + 1 := ⟨k - 1, by omega⟩
    refine ⟨_, t_end w x b k i (by omega) hw (by omega), m_end w x b k i (by omega) hw (by omega), ?_⟩
    split
    · show 0 ≤ _; omega
    · rw [size_app, size_app, one32]; omega
  | d + 1, k, i, x, h1, h2, h3 => by
    obtain ⟨k, rfl⟩ : ∃ q, k = q + 1 := ⟨k - 1, by omega⟩
    rw [t_step w x b k i (by omega) (by omega), m_step w x b k i hb (by omega) (by omega)]
    by_cases hc : cc b i = true
    · rw [if_pos hc, if_pos hc]
      exact tags_l0 w hw b hb d k (i + 1) _ (by omega) (by omega) (by rw [size_app, size_app, one32, dig_size]; omega)
    · rw [if_neg hc, if_neg hc]
      exact tags_l0 w hw b hb d k (i + 1) x (by omega) (by omega) (by omega)
theorem tags_eq (w : ByteArray) (hw : w.size ≤ 1000) {b : Int} (h0 : 0 ≤ b) (h1 : b ≤ 255) {k : Nat} (hk : 5 ≤ k) : ∃ t, text_tags.f k w b = some t ∧ maquettelaw07_tags.f k w b = some t ∧ t.size ≤ w.size + 9 := by
  obtain ⟨n, rfl⟩ : ∃ n : Nat, b = n := ⟨b.toNat, (Int.toNat_of_nonneg h0).symm⟩
  exact tags_l0 w hw n (by omega) 4 k 0 ⟨#[]⟩ (by omega) (by omega) (by show 0 ≤ _; omega)
/-! ### numbers -/
theorem ext_dig : ∀ n : Fin 10, (⟨#[48, 49, 50, 51, 52, 53, 54, 55, 56, 57]⟩ : ByteArray).extract n.val (n.val + 1) = ⟨#[UInt8.ofNat (48 + n.val)]⟩ := by decide +kernel
theorem dec_len : ∀ (L n : Nat), n < 10 ^ (L + 1) → (Lib.decDigits n).length ≤ L + 1
  | 0, n, h => by rw [Lib.decDigits_one (by simpa using h)]; simp
  | L + 1, n, h => by
    rw [Lib.decDigits]
    by_cases h1 : n < 10
    · rw [dif_pos h1]; simp
    · rw [dif_neg h1, List.length_append]
      have := dec_len L (n / 10) (by rw [Nat.pow_succ] at h; exact Nat.div_lt_of_lt_mul (by omega))
      simp
      omega
theorem digits_nat : ∀ (L n k : Nat), n < 10 ^ (L + 1) → L < 19 → n < 9223372036854775808 → L + 1 ≤ k → maquettelaw07_digits.f k (n : Int) = some ⟨(Lib.decDigits n).toArray⟩
  | L, n, k, h, hL, hn, hk => by
    obtain ⟨k, rfl⟩ : ∃ q, k = q + 1 := ⟨k - 1, by omega⟩
    rw [maquettelaw07_digits.f, if_neg (by omega)]
    by_cases h1 : n < 10
    · have e1 : wrap64 ((n : Int) + 1) = ((n + 1 : Nat) : Int) := by rw [w64s (by omega) (by omega)]; omega
      rw [if_pos (by omega), if_pos (by omega), e1, if_pos (by omega), if_pos (by omega), Int.toNat_natCast, Int.toNat_natCast, ext_dig ⟨n, h1⟩, Lib.decDigits_one h1]
    · rw [if_neg (by omega)]
      match L, h with
      | 0, h => exact absurd (by simpa using h) h1
      | L + 1, h =>
        have q1 : Int.tdiv (n : Int) 10 = ((n / 10 : Nat) : Int) := by rw [Int.tdiv_eq_ediv_of_nonneg (by omega)]; simp
        have q2 : Int.tmod (n : Int) 10 = ((n % 10 : Nat) : Int) := by rw [Int.tmod_eq_emod_of_nonneg (by omega)]; simp
        have hd : n / 10 < 10 ^ (L + 1) := by rw [Nat.pow_succ] at h; exact Nat.div_lt_of_lt_mul (by omega)
        rw [q1, q2, w64s (by omega) (by omega), digits_nat L (n / 10) k hd (by omega) (by omega) (by omega), Option.bind_some, digits_nat 0 (n % 10) k (by simp; omega) (by omega) (by omega) (by omega), Option.bind_some]
        have l1 := dec_len L (n / 10) hd
        have l2 := dec_len 0 (n % 10) (by simp; omega)
        have z1 : (⟨(Lib.decDigits (n / 10)).toArray⟩ : ByteArray).size = (Lib.decDigits (n / 10)).length := by show Array.size _ = _; simp
        have z2 : (⟨(Lib.decDigits (n % 10)).toArray⟩ : ByteArray).size = (Lib.decDigits (n % 10)).length := by show Array.size _ = _; simp
        rw [if_pos (by rw [z1, z2]; omega)]
        refine congrArg some (ext_data ?_)
        rw [Lib.decDigits.eq_def n, dif_neg h1, ← Lib.decDigits_one (show n % 10 < 10 by omega)]
        simp
theorem digits_f {n : Int} (h0 : -999999 ≤ n) (h1 : n < 9223372036854775808) {k : Nat} (hk : 25 ≤ k) : maquettelaw07_digits.f k n = some ⟨(Lib.itoa n).toArray⟩ ∧ (Lib.itoa n).length ≤ 20 := by
  by_cases hn : n < 0
  · obtain ⟨k, rfl⟩ : ∃ q, k = q + 1 := ⟨k - 1, by omega⟩
    have e : wrap64 (-n) = ((n.natAbs : Nat) : Int) := by rw [w64s (by omega) (by omega)]; omega
    have l1 := dec_len 5 n.natAbs (by show n.natAbs < 1000000; omega)
    have z1 : (⟨(Lib.decDigits n.natAbs).toArray⟩ : ByteArray).size = (Lib.decDigits n.natAbs).length := by show Array.size _ = _; simp
    rw [maquettelaw07_digits.f, if_pos hn, e, digits_nat 5 n.natAbs k (by show n.natAbs < 1000000; omega) (by omega) (by omega) (by omega), Option.bind_some, if_pos (by rw [z1]; omega)]
    unfold Lib.itoa
    rw [if_pos hn]
    exact ⟨congrArg some (ext_data (by simp)), by simp; omega⟩
  · have e : n = ((n.toNat : Nat) : Int) := (Int.toNat_of_nonneg (by omega)).symm
    have hp : n.toNat < 10 ^ (18 + 1) := by show n.toNat < 10000000000000000000; omega
    have l1 := dec_len 18 n.toNat hp
    unfold Lib.itoa
    rw [if_neg hn]
    refine ⟨?_, by omega⟩
    rw [e, digits_nat 18 n.toNat k hp (by omega) (by omega) (by omega), Int.toNat_natCast]
theorem itoa_sizes (n : Int) : (⟨(Lib.itoa n).toArray⟩ : ByteArray).size = (Lib.itoa n).length := by show Array.size _ = _; simp
theorem dec_ne {n : Nat} (h : n ≠ 0) : Lib.decDigits n ≠ [48] := by
  intro e
  by_cases h1 : n < 10
  · rw [Lib.decDigits_one h1] at e
    have : ∀ n : Fin 10, n.val ≠ 0 → [UInt8.ofNat (48 + n.val)] ≠ [48] := by decide
    exact this ⟨n, h1⟩ h e
  · rw [Lib.decDigits, dif_neg h1] at e
    have l := congrArg List.length e
    have : 0 < (Lib.decDigits (n / 10)).length := by rw [Lib.decDigits_length, Lib.nDigits]; split <;> omega
    rw [List.length_append] at l
    simp only [List.length_cons, List.length_nil] at l
    omega
theorem dec_nil (n : Nat) : Lib.decDigits n ≠ [] := by
  intro e
  have : 0 < (Lib.decDigits n).length := by rw [Lib.decDigits_length, Lib.nDigits]; split <;> omega
  rw [e] at this
  exact absurd this (by decide)
theorem number_eq (w : ByteArray) (hw : w.size ≤ 1000) {n : Int} (h0 : -999999 ≤ n) (h1 : n < 9223372036854775808) {k : Nat} (hk : 25 ≤ k) :
    ∃ t, text_number.f w n = some t ∧ ((maquettelaw07_digits.f k n).bind fun d => maquettelaw07_named.f w d) = some t ∧ t.size ≤ w.size + 22 := by
  obtain ⟨hd, hl⟩ := digits_f h0 h1 hk
  rw [hd, Option.bind_some]
  by_cases hn : n = 0
  · subst hn
    have e0 : Lib.itoa 0 = [48] := by decide +kernel
    rw [e0]
    refine ⟨⟨#[]⟩, by unfold text_number.f; rw [if_pos rfl], by unfold maquettelaw07_named.f; rw [toList_eq, if_neg (by simp), if_pos rfl], by show 0 ≤ _; omega⟩
  · have e1 : Lib.itoa n ≠ [] := by
      unfold Lib.itoa
      split
      · simp
      · exact dec_nil _
    have e2 : Lib.itoa n ≠ [48] := by
      unfold Lib.itoa
      split
      · intro e; injection e with e; exact absurd e (by decide)
      · exact dec_ne (by omega)
    have ei : strconv_Itoa.f n = some ⟨(Lib.itoa n).toArray⟩ := by unfold strconv_Itoa.f; rw [if_pos (by omega)]
    have z := itoa_sizes n
    refine ⟨⟨#[32]⟩ ++ w ++ ⟨#[32]⟩ ++ ⟨(Lib.itoa n).toArray⟩, ?_, ?_, by rw [size_app, size_app, size_app, one32, z]; omega⟩
    · unfold text_number.f
      rw [if_neg hn, if_pos (by omega), if_pos (by rw [size_app, one32]; omega), ei, Option.bind_some, if_pos (by rw [size_app, size_app, one32, z]; omega)]
    · unfold maquettelaw07_named.f
      rw [toList_eq, if_neg (by simpa using e1), if_neg (by simpa using e2), if_pos (by omega), if_pos (by rw [size_app, one32]; omega), if_pos (by rw [size_app, size_app, one32, z]; omega)]
end Go.Proofs.YtjcopneljfcfoaaDoor.TxtP
