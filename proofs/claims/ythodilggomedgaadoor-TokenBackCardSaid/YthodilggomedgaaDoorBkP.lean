/- Plain law: a piece that is a number, as the law tells it. -/
import Derived.Test.YthodilggomedgaaDoorDec
import Derived.Test.YthodilggomedgaaDoorPTbx21
namespace Go.Proofs.YthodilggomedgaaDoor.BkP
open Go.RowKit Go.Proofs.YthodilggomedgaaDoor.PTb Go.Proofs.YthodilggomedgaaDoorW.PrintWords Go.Proofs.YthodilggomedgaaDoorW.PrintLast Go.Proofs.YthodilggomedgaaDoorW.PrintMore Go.Proofs.YthodilggomedgaaDoor.Dec
set_option linter.unusedVariables false
set_option linter.unusedSimpArgs false
theorem leO_up {α : Type} {F : Nat → Option α} (h : ∀ k, LeO (F k) (F (k + 1))) {k k' : Nat} (hk : k ≤ k') {r : α} (e : F k = some r) : F k' = some r := by
  induction hk with
  | refl => exact e
  | step _ ih => exact h _ _ ih
theorem lsz (a : ByteArray) : a.data.toList.length = a.size := Array.length_toList
theorem w1 {i : Nat} (h : i < 9223372036854775807) : wrap64 ((i : Int) + 1) = ((i + 1 : Nat) : Int) := by unfold wrap64; omega
theorem drop_at {α : Type} {l : List α} {i : Nat} (h : i < l.length) : ∃ x, l[i]? = some x ∧ l.drop i = x :: l.drop (i + 1) := ⟨l[i], List.getElem?_eq_getElem h, List.drop_eq_getElem_cons h⟩
theorem bt_at {t : ByteArray} {i : Nat} {b : UInt8} (h : t.data.toList[i]? = some b) : bt t (i : Int) = (b.toNat : Int) := by
  have hlt : i < t.size := by
    have := (List.getElem?_eq_some_iff.1 h).1
    rwa [lsz] at this
  unfold bt
  rw [dif_pos (by simpa using hlt)]
  have e := (List.getElem?_eq_some_iff.1 h).2
  simp only [Int.toNat_natCast]
  rw [← e]
  rfl
/-- What is a number's text: digits, up to six, no nought ahead. -/
def okNum (L : List UInt8) : Prop := L ≠ [] ∧ (∀ b ∈ L, isD b) ∧ L.length ≤ 6 ∧ (1 < L.length → L.head? ≠ some 48)
abbrev Pc := Int × ByteArray × Int × Int × Int × Int × Bool
def failT : Pc := (0, ⟨#[]⟩, 0, 0, 0, 0, false)
theorem take_val (L : List UInt8) (i : Nat) (b : UInt8) (h : L[i]? = some b) : valF 0 (L.take (i + 1)) = valF 0 (L.take i) * 10 + dv b := by
  rw [List.take_add_one, h]
  simp [valF]
theorem num_l (s : ByteArray) (hs : s.size < 9223372036854775807) : ∀ d i, i + d = s.size → i ≤ 6 → (∀ b ∈ s.data.toList.take i, isD b) → ∃ k r, maquettelaw06_piece.l0 k s ((valF 0 (s.data.toList.take i) : Nat) : Int) (i : Int) = some r ∧
    ((okNum s.data.toList ∧ r = ((2, s, ((valF 0 s.data.toList : Nat) : Int), 0, 0, 0, true) : Pc)) ∨ (¬ okNum s.data.toList ∧ r = failT)) := by
  intro d
  induction d with
  | zero =>
    intro i hi h6 hd
    obtain rfl : i = s.size := by omega
    rw [← lsz, List.take_length] at hd ⊢
    rw [lsz]
    by_cases h0 : s.size = 0
    · refine ⟨1, failT, ?_, Or.inr ⟨fun h => h.1 (List.length_eq_zero_iff.1 (by rw [lsz]; exact h0)), rfl⟩⟩
      rw [maquettelaw06_piece.l0, if_neg (by omega), if_pos (by omega)]
      rfl
    · have hne : s.data.toList ≠ [] := fun e => h0 (by rw [← lsz, e]; rfl)
      by_cases h1 : 1 < s.size
      · obtain ⟨c, hc, -⟩ := drop_at (l := s.data.toList) (i := 0) (by rw [lsz]; omega)
        have hb := bt_at hc
        rw [show ((0 : Nat) : Int) = 0 from rfl] at hb
        have hh : s.data.toList.head? = some c := by rw [List.head?_eq_getElem?]; exact hc
        by_cases h48 : c = 48
        · refine ⟨1, failT, ?_, Or.inr ⟨fun h => h.2.2.2 (by rw [lsz]; exact h1) (by rw [hh, h48]), rfl⟩⟩
          rw [maquettelaw06_piece.l0, if_neg (by omega), if_neg (by omega), if_pos (by omega), if_pos (by omega), if_pos (by rw [hb, h48]; rfl)]
          rfl
        · refine ⟨1, _, ?_, Or.inl ⟨⟨hne, hd, by rw [lsz]; exact h6, fun _ => by rw [hh]; intro e; exact h48 (Option.some.inj e)⟩, rfl⟩⟩
          rw [maquettelaw06_piece.l0, if_neg (by omega), if_neg (by omega), if_pos (by omega), if_pos (by omega), if_neg (by
            rw [hb]
            intro e
            apply h48
            have : c.toNat = (48 : UInt8).toNat := by have : (48 : UInt8).toNat = 48 := rfl; omega
            exact UInt8.toNat_inj.1 this)]
      · refine ⟨1, _, ?_, Or.inl ⟨⟨hne, hd, by rw [lsz]; exact h6, fun h => absurd (by rwa [lsz] at h) h1⟩, rfl⟩⟩
        rw [maquettelaw06_piece.l0, if_neg (by omega), if_neg (by omega), if_neg (by omega)]
  | succ d ih =>
    intro i hi h6 hd
    obtain ⟨c, hc, -⟩ := drop_at (l := s.data.toList) (i := i) (by rw [lsz]; omega)
    have hb := bt_at hc
    have hmem := List.mem_of_getElem? hc
    by_cases l48 : c.toNat < 48
    · refine ⟨1, failT, ?_, Or.inr ⟨fun h => by have := (h.2.1 c hmem).1; omega, rfl⟩⟩
      rw [maquettelaw06_piece.l0, if_pos (by omega), if_pos (by omega), if_pos (by omega)]
      rfl
    · by_cases g57 : c.toNat > 57
      · refine ⟨1, failT, ?_, Or.inr ⟨fun h => by have := (h.2.1 c hmem).2; omega, rfl⟩⟩
        rw [maquettelaw06_piece.l0, if_pos (by omega), if_pos (by omega), if_neg (by omega), if_pos (by omega)]
        rfl
      · by_cases e6 : i = 6
        · refine ⟨1, failT, ?_, Or.inr ⟨fun h => by have := h.2.2.1; rw [lsz] at this; omega, rfl⟩⟩
          rw [maquettelaw06_piece.l0, if_pos (by omega), if_pos (by omega), if_neg (by omega), if_neg (by omega), if_pos (by omega)]
          rfl
        · have hdc : isD c := ⟨by omega, by omega⟩
          have hd' : ∀ b ∈ s.data.toList.take (i + 1), isD b := by
            intro b hb'
            rw [List.take_add_one, hc] at hb'
            rcases List.mem_append.1 hb' with h | h
            · exact hd b h
            · simp at h; subst h; exact hdc
          obtain ⟨k, r, h1, h2⟩ := ih (i + 1) (by omega) (by omega) hd'
          refine ⟨k + 1, r, ?_, h2⟩
          have hv := valF_lt (s.data.toList.take i) 0 hd
          have hpow : 10 ^ (s.data.toList.take i).length ≤ 10 ^ 6 := Nat.pow_le_pow_right (by omega) (by rw [List.length_take]; omega)
          have hv6 : valF 0 (s.data.toList.take i) < 1000000 := by
            have : (10 : Nat) ^ 6 = 1000000 := rfl
            omega
          have e1 : wrap64 ((wrap64 (((valF 0 (s.data.toList.take i) : Nat) : Int) * 10)) + (((c.toNat : Int) - 48) % 256)) = ((valF 0 (s.data.toList.take (i + 1)) : Nat) : Int) := by
            rw [take_val _ _ _ hc]
            have : dv c = c.toNat - 48 := rfl
            generalize valF 0 (s.data.toList.take i) = v at hv6
            have e2 : wrap64 ((v : Int) * 10) = ((v * 10 : Nat) : Int) := by unfold wrap64; omega
            rw [e2]
            unfold wrap64
            omega
          rw [maquettelaw06_piece.l0, if_pos (by omega), if_pos (by omega), if_neg (by omega), if_neg (by omega), if_neg (by omega), hb, e1, w1 (by omega)]
          exact h1
end Go.Proofs.YthodilggomedgaaDoor.BkP
