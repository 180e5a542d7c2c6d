/- Walks: slices.Contains of prefixes, lower.Net. -/
import Derived.Test.YtncebbpnmpgjiaaPeer
import Derived.Test.YtncebbpnmpgjiaaMix
import Derived.Test.YtncebbpnmpgjiaaMap
import Derived.Test.YtncebbpnmpgjiaaJ0
namespace Go.Proofs.Ytncebbpnmpgjiaa.Low
open Go.RowKit Go.Proofs.Ytncebbpnmpgjiaa.Mq Go.Proofs.Ytncebbpnmpgjiaa.Pfx Go.Proofs.Ytncebbpnmpgjiaa.Cls Go.Proofs.Ytncebbpnmpgjiaa.Map
set_option linter.unusedVariables false
set_option linter.unusedSimpArgs false
attribute [local go_sem] bs_list
attribute [local go_sem ↓] Eq.eql_pf
theorem spelled {W : World} {cs : List Value} {ad : Addr} {n : Nat} (h : ∀ (j : Nat) u, cs[j]? = some u → W.cell? (ad.add (n + j)) = some u) (j : Nat) (u : Value) (hj : cs[j + 1]? = some u) : W.cell? ⟨(ad.add n).block, (ad.add n).off + (j + 1), none⟩ = some u := by
  have h1 := h (j + 1) u hj
  rw [← add_add] at h1
  simpa [Addr.add] using h1
def indexB (ps : List Pf) (p : Pf) : Int := match ps.findIdx? (fun q => p == q) with | some k => k | none => -1
set_option maxHeartbeats 4000000 in
set_option maxRecDepth 100000 in
theorem index_calls {w : World} {A : Option Addr} {ps : List Pf} {n : Nat} (h : Row pfR w (· < w.heap.size) A ps) (a b : Int) :
    Calls Try.prog 21 #[.slice A ps.length n, .agg #[.int .u32 a, .int .i64 b]] w fun e W => e = .returned (.int .i64 (indexB ps ⟨a, b⟩)) ∧ Mem w W [] [] := by
  have H := (MemM.start w).box 36 [.int .u32 a, .int .i64 b]
  have hl := h.len
  unfold maxLen at hl
  go_enter Try.func21, Try.ntmps21
  go_wp2_with fail
  generalize w.heap.size = g at H ⊢
  generalize w.alloc (.cells #[.int .u32 a, .int .i64 b] 36) = W at H ⊢
  go_loopw [8] (fun v8 W => ∃ k : Nat, k ≤ ps.length ∧ v8 = .int .i64 k ∧ Hid (∀ q ∈ ps.take k, q ≠ ⟨a, b⟩) ∧ Mem w W [] [box g 36 [.int .u32 a, .int .i64 b]]) (fun v8 _ => ps.length - (intOf v8).toNat)
  case atStart => exact ⟨0, Nat.zero_le _, rfl, (fun q hq => by simp at hq), H⟩
  case round =>
    clear H
    obtain ⟨k, hk, rfl, hacc, H⟩ := hrel
    by_cases hlt : k < ps.length
    · obtain ⟨q, hq⟩ : ∃ q, ps[k]? = some q := ⟨_, List.getElem?_eq_getElem hlt⟩
      obtain ⟨ad, rfl, hx⟩ := h.flat1 hq
      have hx := oldcells H hx
      have x0 := hx 0 _ rfl
      have x1 := spelled hx 0 _ rfl
      have c0 := (H.boxcell (.head _) 0 _ rfl).1
      have c1 := (H.boxcell (.head _) 1 _ rfl).1
      obtain ⟨pa, pb⟩ := q
      simp only [Nat.add_zero] at x0
      clear hx
      have hmem := List.mem_of_getElem? hq
      have hsn := hide (List.take_succ_eq_append_getElem hlt)
      have hqk : Hid (ps[k] = ⟨pa, pb⟩) := by rw [List.getElem?_eq_getElem hlt] at hq; injection hq
      by_cases he : a = pa ∧ b = pb
      · obtain ⟨rfl, rfl⟩ := he
        have hfin : Hid (indexB ps ⟨a, b⟩ = k) := by
          unfold indexB Hid
          rw [show ps.findIdx? (fun q => (⟨a, b⟩ : Pf) == q) = some k from by
            rw [List.findIdx?_eq_some_iff_getElem]
            refine ⟨hlt, by simp [hqk.out], fun j hj => ?_⟩
            have := hacc.out ps[j] (List.mem_take_iff_getElem.2 ⟨j, by omega, rfl⟩)
            simp
            exact fun e => this e.symm]
        clear hq hmem
        have e1 : (a == a && b == b) = true := by simp
        go_wp2
        go_quiet (fail)
        go_wp2
        go_ret
        exact ⟨by rw [hfin.out]; rfl, (H.drewN _).drop⟩
      · have e1 : (a == pa && b == pb) = false := by simpa using he
        have hnx : Hid (∀ q ∈ ps.take (k + 1), q ≠ ⟨a, b⟩) := by
          intro q hq2
          rw [hsn.out, hqk.out] at hq2
          rcases List.mem_append.1 hq2 with h | h
          · exact hacc.out q h
          · rw [List.mem_singleton.1 h]
            intro e
            injection e with e2 e3
            exact he ⟨e2.symm, e3.symm⟩
        clear hq hmem he
        go_wp2
        go_quiet (fail)
        go_wp2
        go_roundw
        case rel => exact ⟨k + 1, by omega, by go_num, hnx, H.drewN _⟩
        case measure => simp [intOf]; omega
    · obtain rfl : k = ps.length := by omega
      have hfin : Hid (indexB ps ⟨a, b⟩ = -1) := by
        unfold indexB Hid
        rw [show ps.findIdx? (fun q => (⟨a, b⟩ : Pf) == q) = none from by
          rw [List.findIdx?_eq_none_iff]
          intro q hq
          have := hacc.out q (by rw [List.take_length]; exact hq)
          simp
          exact fun e => this e.symm]
      go_wp2
      go_ret
      exact ⟨by rw [hfin.out]; rfl, H.drop⟩
set_option maxHeartbeats 4000000 in
set_option maxRecDepth 100000 in
theorem contains_calls {w : World} {A : Option Addr} {ps : List Pf} {n : Nat} (h : Row pfR w (· < w.heap.size) A ps) (a b : Int) :
    Calls Try.prog 13 #[.slice A ps.length n, .agg #[.int .u32 a, .int .i64 b]] w fun e W => e = .returned (.bool (decide (0 ≤ indexB ps ⟨a, b⟩))) ∧ Mem w W [] [] := by
  have H := (MemM.start w).box 36 [.int .u32 a, .int .i64 b]
  have hl := h.len
  unfold maxLen at hl
  go_enter Try.func13, Try.ntmps13
  go_wp2_with fail
  refine (index_calls (H.arg h) a b).mono ?_
  rintro e W1 ⟨rfl, hm⟩
  replace H := H.call hm
  obtain ⟨k, hk⟩ : ∃ k, Hid (indexB ps ⟨a, b⟩ = k) := ⟨_, rfl⟩
  rw [hk.out]
  go_wp2
  go_ret
  exact ⟨by rw [hk.out]; rfl, H.drop⟩
end Go.Proofs.Ytncebbpnmpgjiaa.Low
