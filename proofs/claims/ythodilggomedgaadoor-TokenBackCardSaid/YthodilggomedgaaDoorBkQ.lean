/- Plain law: prefix.Parse answers something of every text. -/
import Derived.Test.YthodilggomedgaaDoorBkP
import Derived.Test.YthodilggomedgaaDoorPTbx12
namespace Go.Proofs.YthodilggomedgaaDoor.BkP
open Go.RowKit Go.Proofs.YthodilggomedgaaDoor.PTb Go.Proofs.YthodilggomedgaaDoorW.PrintWords Go.Proofs.YthodilggomedgaaDoorW.PrintLast Go.Proofs.YthodilggomedgaaDoorW.PrintMore Go.Proofs.YthodilggomedgaaDoor.Dec
set_option linter.unusedVariables false
set_option linter.unusedSimpArgs false
theorem splitB_size (sep : ByteArray) (save : Nat) : ∀ (k : Nat) (s : ByteArray), ∀ p ∈ Lib.splitB sep save k s, p.size ≤ s.size
  | 0, s, p, h => by
    rw [Lib.splitB_zero] at h
    rw [List.mem_singleton.1 h]
    exact Nat.le_refl _
  | k + 1, s, p, h => by
    unfold Lib.splitB at h
    split at h
    · rw [List.mem_singleton.1 h]; exact Nat.le_refl _
    · rcases List.mem_cons.1 h with rfl | h
      · rw [ByteArray.size_extract]; omega
      · have := splitB_size sep save k _ p h
        rw [ByteArray.size_extract] at this
        omega
theorem may_some (a b : Int) : ∃ m, prefix_May.f a b = some m := by
  cases h : prefix_May.f a b with
  | some m => exact ⟨m, rfl⟩
  | none =>
    exfalso
    unfold prefix_May.f at h
    split at h
    · split at h
      · have : prefix_mask.f b ≠ none := by
          unfold prefix_mask.f
          split
          · simp
          · rw [if_pos (by unfold wrap64 mn; split <;> omega)]
            simp
        cases hm : prefix_mask.f b with
        | none => exact this hm
        | some m => rw [hm] at h; simp at h
      · simp at h
    · simp at h
theorem num_some (s : ByteArray) (m : Int) (h : s.size ≤ 281474976710656) : prefix_number.f s m = some (Libs.numb s, Libs.numOk s m) := by
  unfold prefix_number.f
  rw [if_pos h]
theorem parse_l (ps : List ByteArray) (hl : ps.length = 4) (hs : ∀ p ∈ ps, p.size ≤ 281474976710656) : ∀ (d i : Nat) (a b : Int), i + d = 4 → ∃ r, ∀ k, d + 1 ≤ k → prefix_Parse.l0 k ps (ps.length : Int) (i : Int) a b = some r
  | 0, i, a, b, hi => by
    obtain ⟨m, hm⟩ := may_some a b
    cases m with
    | true =>
      refine ⟨(a, b, true), fun k hk => ?_⟩
      obtain ⟨k, rfl⟩ : ∃ q, k = q + 1 := ⟨k - 1, by omega⟩
      rw [prefix_Parse.l0, if_neg (by omega), hm, Option.bind_some, if_pos rfl]
    | false =>
      refine ⟨(0, 0, false), fun k hk => ?_⟩
      obtain ⟨k, rfl⟩ : ∃ q, k = q + 1 := ⟨k - 1, by omega⟩
      rw [prefix_Parse.l0, if_neg (by omega), hm, Option.bind_some, if_neg (by simp)]
  | d + 1, i, a, b, hi => by
    obtain ⟨p, hp, -⟩ := drop_at (l := ps) (i := i) (by omega)
    have hr : rdOf ByteArray.empty ps (i : Int) = p := by simp [rdOf, List.getD, hp]
    have hn := num_some p 255 (hs p (List.mem_of_getElem? hp))
    cases ho : Libs.numOk p 255 with
    | true =>
      obtain ⟨r, h⟩ := parse_l ps hl hs d (i + 1) (Go.bits .or .u32 ((a * 256) % 4294967296) ((Libs.numb p) % 4294967296)) b (by omega)
      refine ⟨r, fun k hk => ?_⟩
      obtain ⟨k, rfl⟩ : ∃ q, k = q + 1 := ⟨k - 1, by omega⟩
      rw [prefix_Parse.l0, if_pos (by omega), if_pos (by omega), if_pos (by omega), hr, hn, Option.bind_some]
      simp only [ho]
      rw [if_pos trivial, w1 (by omega)]
      exact h k (by omega)
    | false =>
      refine ⟨(0, 0, false), fun k hk => ?_⟩
      obtain ⟨k, rfl⟩ : ∃ q, k = q + 1 := ⟨k - 1, by omega⟩
      rw [prefix_Parse.l0, if_pos (by omega), if_pos (by omega), if_pos (by omega), hr, hn, Option.bind_some]
      simp only [ho]
      rw [if_neg (by simp)]
theorem cut_sizes (s : ByteArray) (sep : List UInt8) : (⟨(Lib.cut s.data.toList sep).1.toArray⟩ : ByteArray).size ≤ s.size ∧ (⟨(Lib.cut s.data.toList sep).2.1.toArray⟩ : ByteArray).size ≤ s.size := by
  have e : ∀ u : List UInt8, (⟨u.toArray⟩ : ByteArray).size = u.length := fun u => by show Array.size _ = _; simp
  unfold Lib.cut
  split
  · have hl := lsz s
    exact ⟨by rw [e (List.take _ _), List.length_take]; omega, by rw [e (List.drop _ _), List.length_drop]; omega⟩
  · exact ⟨by rw [e, lsz]; exact Nat.le_refl _, by show 0 ≤ _; omega⟩
theorem j0_total (v : Int) (ps : List ByteArray) (hs : ∀ p ∈ ps, p.size ≤ 281474976710656) (b : Bool) (hb : b = false → ps.length = 4) : ∃ r, ∀ k, 7 ≤ k → prefix_Parse.j0 k v ps b = some r := by
  cases b with
  | true =>
    refine ⟨(0, 0, false), fun k hk => ?_⟩
    obtain ⟨k, rfl⟩ : ∃ q, k = q + 1 := ⟨k - 1, by omega⟩
    rw [prefix_Parse.j0, if_pos rfl]
  | false =>
    obtain ⟨r, h⟩ := parse_l ps (hb rfl) hs 4 0 0 v (by omega)
    refine ⟨r, fun k hk => ?_⟩
    obtain ⟨k, rfl⟩ : ∃ q, k = q + 1 := ⟨k - 1, by omega⟩
    rw [prefix_Parse.j0, if_neg (by simp)]
    exact h k (by omega)
end Go.Proofs.YthodilggomedgaaDoor.BkP
