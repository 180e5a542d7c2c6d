/- Plain law: a piece of a text: the program and the law tell one and the same of it. -/
import Derived.Test.YthodilggomedgaaDoorBkM
import Derived.Test.YthodilggomedgaaDoorBkQ
import Derived.Test.YthodilggomedgaaDoorPTbx15
import Derived.Test.YthodilggomedgaaDoorPTbx21
namespace Go.Proofs.YthodilggomedgaaDoor.BkP
open Go.RowKit Go.Proofs.YthodilggomedgaaDoor.PTb Go.Proofs.YthodilggomedgaaDoorW.PrintWords Go.Proofs.YthodilggomedgaaDoorW.PrintLast Go.Proofs.YthodilggomedgaaDoorW.PrintMore Go.Proofs.YthodilggomedgaaDoor.Dec Go.Proofs.YthodilggomedgaaDoor.BkM
set_option linter.unusedVariables false
set_option linter.unusedSimpArgs false
theorem parse_total (s : ByteArray) (hs : s.size ≤ 1000000) : ∃ r, ∀ k, 7 ≤ k → prefix_Parse.f k s = some r := by
  obtain ⟨h1, h2⟩ := cut_sizes s [47]
  have e47 : (⟨#[47]⟩ : ByteArray).data.toList = [47] := rfl
  generalize hc : Lib.cut s.data.toList [47] = C at h1 h2
  obtain ⟨c1, c2, c3⟩ := C
  have hcut : strings_Cut.f s (⟨#[47]⟩ : ByteArray) = some (⟨c1.toArray⟩, ⟨c2.toArray⟩, c3) := by
    unfold strings_Cut.f
    rw [if_pos (by omega), e47, hc]
  simp only at h1 h2
  generalize (⟨c1.toArray⟩ : ByteArray) = A at h1 hcut
  generalize (⟨c2.toArray⟩ : ByteArray) = B at h2 hcut
  have hn := num_some B 32 (by omega)
  generalize hps : Lib.splitB (⟨#[46]⟩ : ByteArray) 0 (Lib.countB A (⟨#[46]⟩ : ByteArray)) A = ps
  have hsp : strings_Split.f A (⟨#[46]⟩ : ByteArray) = some ps := by
    unfold strings_Split.f
    rw [if_pos ⟨by omega, by decide⟩, hps]
  have hpz : ∀ p ∈ ps, p.size ≤ 281474976710656 := by
    intro p hp
    rw [← hps] at hp
    have := splitB_size _ _ _ _ p hp
    omega
  have key : ∀ b : Bool, (b = false → ps.length = 4) → ∃ r, ∀ k, 7 ≤ k → prefix_Parse.j0 k (Libs.numb B) ps b = some r := j0_total _ ps hpz
  obtain ⟨rt, ht⟩ := key true (fun h => by cases h)
  obtain ⟨rl, hl⟩ := key ((ps.length : Int) != 4) (fun h => by simp at h; omega)
  refine ⟨if c3 = true then (if Libs.numOk B 32 = true then rl else rt) else rt, fun k hk => ?_⟩
  unfold prefix_Parse.f
  rw [hcut, Option.bind_some]
  simp only
  rw [hn, Option.bind_some, hsp, Option.bind_some]
  simp only
  rw [ht k hk, hl k hk]
  split
  · split <;> rfl
  · rfl
def numP (s : ByteArray) : Option Pc := (strconv_Atoi.f s).bind (fun bt127 => (if bt127.2.isNone = true then (if bt127.1 < 0 then some failT else (if bt127.1 > 999999 then some failT else ((strconv_Itoa.f bt127.1).bind fun t130 => (if t130.toList = s.toList then some ((2, s, bt127.1, 0, 0, 0, true) : Pc) else some failT)))) else some failT))
theorem dec_len : ∀ (k n : Nat), n < 10 ^ (k + 1) → (Lib.decDigits n).length ≤ k + 1
  | 0, n, h => by
    rw [Lib.decDigits_one (by simpa using h)]
    simp
  | k + 1, n, h => by
    by_cases h1 : n < 10
    · rw [Lib.decDigits_one h1]
      simp
    · rw [Lib.decDigits, dif_neg h1, List.length_append]
      have := dec_len k (n / 10) (by
        have : 10 ^ (k + 1 + 1) = 10 * 10 ^ (k + 1) := by rw [Nat.pow_succ, Nat.mul_comm]
        omega)
      simp only [List.length_singleton]
      omega
theorem dec_head (n : Nat) (h : 1 ≤ n) : (Lib.decDigits n).head? ≠ some 48 := by
  have key : ∀ d : Fin 10, 1 ≤ d.val → UInt8.ofNat (48 + d.val) ≠ 48 := by decide
  induction n using Nat.strongRecOn with
  | _ n ih =>
    by_cases h1 : n < 10
    · rw [Lib.decDigits_one h1]
      intro e
      exact key ⟨n, h1⟩ h (Option.some.inj e)
    · rw [Lib.decDigits, dif_neg h1]
      have := ih (n / 10) (by omega) (by omega)
      cases hd : Lib.decDigits (n / 10) with
      | nil => exact absurd hd (dec_ne _)
      | cons c r =>
        rw [hd] at this
        exact this
theorem ok_len {n : Nat} (h : n ≤ 999999) : (Lib.decDigits n).length ≤ 6 ∧ (1 < (Lib.decDigits n).length → (Lib.decDigits n).head? ≠ some 48) := by
  refine ⟨dec_len 5 n (by omega), fun h1 => ?_⟩
  by_cases h0 : n = 0
  · subst h0
    rw [Lib.decDigits_one (by omega)] at h1
    simp at h1
  · exact dec_head n (by omega)
theorem atoi_ok {s : ByteArray} {v : Int} (hs : s.size ≤ 1000000) (h : Lib.atoiAll s.data.toList = .ok v) : strconv_Atoi.f s = some (v, none) := by
  unfold strconv_Atoi.f
  rw [if_pos (by omega)]
  simp only [h]
theorem atoi_syn {s : ByteArray} (hs : s.size ≤ 1000000) (h : Lib.atoiAll s.data.toList = .«syntax») : strconv_Atoi.f s = some (0, some 0) := by
  unfold strconv_Atoi.f
  rw [if_pos (by omega)]
  simp only [h]
theorem atoi_range {s : ByteArray} (hs : s.size ≤ 1000000) (h : Lib.atoiAll s.data.toList = .range) : strconv_Atoi.f s = some (Lib.atoiSat s.data.toList, some 0) := by
  unfold strconv_Atoi.f
  rw [if_pos (by omega)]
  simp only [h]
theorem num_p (s : ByteArray) (hs : s.size ≤ 1000000) : ∃ r : Pc, ((okNum s.data.toList ∧ r = ((2, s, ((valF 0 s.data.toList : Nat) : Int), 0, 0, 0, true) : Pc)) ∨ (¬ okNum s.data.toList ∧ r = failT)) ∧ numP s = some r := by
  have hit : ∀ n : Nat, n ≤ 999999 → strconv_Itoa.f (n : Int) = some ⟨(Lib.decDigits n).toArray⟩ := by
    intro n hn
    unfold strconv_Itoa.f Lib.itoa
    rw [if_pos (by omega), if_neg (by omega), Int.toNat_natCast]
  have hcmp : ∀ n : Nat, ((⟨(Lib.decDigits n).toArray⟩ : ByteArray).toList = s.toList) = (Lib.decDigits n = s.data.toList) := by
    intro n
    rw [ByteArray.toList_eq, ByteArray.toList_eq]
  by_cases hok : okNum s.data.toList
  · have hok0 := hok
    obtain ⟨h1, h2, h3, h4⟩ := hok
    have hv := valF_lt s.data.toList 0 h2
    have hpow : 10 ^ s.data.toList.length ≤ 10 ^ 6 := Nat.pow_le_pow_right (by omega) h3
    have hv6 : valF 0 s.data.toList < 1000000 := by
      have : (10 : Nat) ^ 6 = 1000000 := rfl
      omega
    have hd := dec_val s.data.toList h1 h2 h4
    have ha := atoi_dec (n := valF 0 s.data.toList) (by omega)
    rw [hd] at ha
    refine ⟨_, Or.inl ⟨hok0, rfl⟩, ?_⟩
    unfold numP
    rw [atoi_ok hs ha]
    simp only [Option.bind_some, Option.isNone_none]
    rw [if_pos trivial, if_neg (by omega), if_neg (by omega), hit _ (by omega), Option.bind_some]
    simp only [hcmp]
    rw [if_pos hd]
  · refine ⟨failT, Or.inr ⟨hok, rfl⟩, ?_⟩
    unfold numP
    cases ha : Lib.atoiAll s.data.toList with
    | «syntax» => rw [atoi_syn hs ha]; rfl
    | range => rw [atoi_range hs ha]; rfl
    | ok v =>
      rw [atoi_ok hs ha]
      simp only [Option.bind_some, Option.isNone_none]
      rw [if_pos trivial]
      by_cases v0 : v < 0
      · rw [if_pos v0]
      · rw [if_neg v0]
        by_cases v9 : v > 999999
        · rw [if_pos v9]
        · rw [if_neg v9]
          obtain ⟨n, rfl⟩ : ∃ n : Nat, v = n := ⟨v.toNat, by omega⟩
          rw [hit n (by omega), Option.bind_some]
          simp only [hcmp]
          rw [if_neg]
          intro e
          apply hok
          rw [← e]
          exact ⟨dec_ne n, dec_dig n, (ok_len (by omega)).1, (ok_len (by omega)).2⟩
theorem parse_nil : prefix_Parse.f 7 (⟨#[]⟩ : ByteArray) = some (0, 0, false) := by decide +kernel
/-- A piece: what it is. -/
theorem piece_eq (s : ByteArray) (hs : s.size ≤ 1000000) : ∃ r : Pc, (∀ k, s.size + 10 ≤ k → token_piece.f k s = some r) ∧ (∃ K, ∀ k, K ≤ k → maquettelaw06_piece.f k s = some r) ∧ (s.size = 0 → r.2.2.2.2.2.2 = false) ∧ (r.2.2.2.2.2.2 = true → r.2.1 = s) := by
  obtain ⟨b, hb1, hb2⟩ := name_l0 s (by omega) s.size (s.size + 1) 0 (by omega) (by omega)
  have e0 : ((0 : Nat) : Int) = 0 := rfl
  rw [e0] at hb1 hb2
  have hb1' : ∀ k, s.size + 10 ≤ k → token_Name.f k s = some b := fun k hk => leO_up (F := fun k => token_Name.l0 k s s.size 0) (fun k => token_Name.mono_l k _ _ _) (show s.size + 1 ≤ k by omega) hb1
  have hb2' : ∀ k, s.size + 10 ≤ k → maquettelaw06_name.f k s = some b := fun k hk => leO_up (F := fun k => maquettelaw06_name.l0 k s 0) (fun k => maquettelaw06_name.mono_l k _ _) (show s.size + 1 ≤ k by omega) hb2
  obtain ⟨rp, hp⟩ := parse_total s hs
  obtain ⟨rn, hn, hno⟩ := num_p s hs
  obtain ⟨k0, rl, hl0, hlo⟩ := num_l s (by omega) s.size 0 (by omega) (by omega) (by simp)
  have e : rl = rn := by
    rcases hn with ⟨a, rfl⟩ | ⟨a, rfl⟩ <;> rcases hlo with ⟨c, rfl⟩ | ⟨c, rfl⟩
    · rfl
    · exact absurd a c
    · exact absurd c a
    · rfl
  subst e
  have hl' : ∀ k, k0 ≤ k → maquettelaw06_piece.l0 k s 0 0 = some rl := fun k hk => leO_up (F := fun k => maquettelaw06_piece.l0 k s 0 0) (fun k => maquettelaw06_piece.mono_l k _ _ _) hk (by simpa [valF] using hl0)
  refine ⟨if b = true then (1, s, 0, 0, 0, 0, true) else if rp.2.2 = true then (3, s, 0, rp.1, rp.2.1, 0, true) else rl, fun k hk => ?_, ⟨s.size + 10 + k0, fun k hk => ?_⟩, fun h0 => ?_, fun hf => ?_⟩
  · unfold token_piece.f
    rw [hb1' k hk, Option.bind_some]
    by_cases hbb : b = true
    · rw [if_pos hbb, if_pos hbb]
    · rw [if_neg hbb, if_neg hbb, hp k (by omega), Option.bind_some]
      by_cases hpp : rp.2.2 = true
      · rw [if_pos hpp, if_pos hpp]
      · rw [if_neg hpp, if_neg hpp]
        exact hno
  · unfold maquettelaw06_piece.f
    rw [hb2' k (by omega), Option.bind_some]
    by_cases hbb : b = true
    · rw [if_pos hbb, if_pos hbb]
    · rw [if_neg hbb, if_neg hbb, hp k (by omega), Option.bind_some]
      by_cases hpp : rp.2.2 = true
      · rw [if_pos hpp, if_pos hpp]
      · rw [if_neg hpp, if_neg hpp]
        exact hl' k (by omega)
  · have hse : s = ⟨#[]⟩ := by
      cases s with
      | mk d =>
        have : d = #[] := Array.eq_empty_of_size_eq_zero h0
        rw [this]
    have hbf : b = false := by
      have := hb1
      rw [h0, token_Name.l0, if_neg (by omega), if_neg (by omega)] at this
      exact (Option.some.inj this).symm
    have hpf : rp = (0, 0, false) := by
      have := hp 7 (by omega)
      rw [hse, parse_nil] at this
      exact (Option.some.inj this).symm
    have hlf : rl = failT := by
      rcases hlo with ⟨c, -⟩ | ⟨-, c⟩
      · exact absurd (by rw [hse]) c.1
      · exact c
    rw [hbf, hpf, hlf]
    rfl
  · by_cases hbb : b = true
    · rw [if_pos hbb]
    · rw [if_neg hbb] at hf ⊢
      by_cases hpp : rp.2.2 = true
      · rw [if_pos hpp]
      · rw [if_neg hpp] at hf ⊢
        rcases hlo with ⟨-, rfl⟩ | ⟨-, rfl⟩
        · rfl
        · simp [failT] at hf
end Go.Proofs.YthodilggomedgaaDoor.BkP
