/- Walks: the graph of law 21. -/
import Derived.Test.YtmegjmiiiecnoaaFw
namespace Go.Proofs.Ytmegjmiiiecnoaa.Gr
open Go.RowKit Go.Proofs.Ytmegjmiiiecnoaa.Mq Go.Proofs.Ytmegjmiiiecnoaa.FwP Go.Proofs.Ytmegjmiiiecnoaa.Fw
set_option linter.unusedVariables false
set_option linter.unusedSimpArgs false
theorem take_map_snoc {α β : Type} (l : List α) (f : α → β) (k : Nat) (x : α) (hx : l[k]? = some x) : (l.take (k + 1)).map f = (l.take k).map f ++ [f x] := by
  rw [List.take_add_one, hx]; simp

set_option maxHeartbeats 1000000 in
set_option maxRecDepth 100000 in
theorem graph_calls {w : World} {A0 : Option Addr} {raw : List (List Int)} {c0 : Nat} (hraw : Row (slice (int .u8)) w (· < w.heap.size) A0 raw) (hb : ∀ r ∈ raw, ∀ x ∈ r, 0 ≤ x ∧ x ≤ 255) :
    Calls Try.prog 10 #[.slice A0 raw.length c0] w fun e W => ∃ v, e = .returned v ∧ Mem w W [] [own (slice (int .i64)) 33 v (graphB raw)] := by
  have hrl := hraw.len
  unfold maxLen at hrl
  have H := (MemM.start w).nilItem (slice (int .i64)) 33
  have hb := hide hb
  go_enter Try.func10, Try.ntmps10
  go_wp2
  go_loopw [3, 11] (fun v3 v11 W => ∃ k : Nat, k ≤ raw.length ∧ k ≤ 8 ∧ v11 = .int .i64 k ∧ Mem w W [] [own (slice (int .i64)) 33 v3 ((raw.take k).map rowB)]) (fun _ v11 _ => raw.length - (intOf v11).toNat)
  case atStart => exact ⟨0, Nat.zero_le _, by omega, rfl, H⟩
  case round =>
    clear H
    obtain ⟨k, hk, hk8, rfl, H⟩ := hrel
    by_cases hlt : k < raw.length
    · obtain ⟨r, hr⟩ : ∃ r, raw[k]? = some r := ⟨_, List.getElem?_eq_getElem hlt⟩
      obtain ⟨ad, A2, c2, rfl, hx0, hc2, hrow⟩ := H.row_at hraw hr
      by_cases h8 : k = 8
      · have hfin : Hid ((raw.take k).map rowB = graphB raw) := by rw [h8]; rfl
        rw [hfin.out] at H
        clear hr
        have e1 : ((k : Int) == 8) = true := by simp [h8]
        have e2 : ((k : Int) != 8) = false := by simp [h8]
        clear h8 hk8 hfin
        go_wp2
        go_ret
        exact ⟨_, rfl, H⟩
      · have hrb := hide (hb.out r (List.mem_of_getElem? hr))
        have hnx := hide (take_map_snoc raw rowB k r hr)
        have hrm := hrow.len
        unfold maxLen at hrm
        clear hr
        have e1 : ((k : Int) == 8) = false := by simp; omega
        have e2 : ((k : Int) != 8) = true := by simp; omega
        obtain ⟨g, hg⟩ : ∃ g, (raw.take k).map rowB = g := ⟨_, rfl⟩
        have hgl : g.length ≤ 8 := by rw [← hg]; simp; omega
        rw [hg] at H hnx
        clear hg
        have H := H.nilItem (int .i64) 3
        go_wp2
        go_loopw [6, 20] (fun v6 v20 W => ∃ j : Nat, j ≤ r.length ∧ v20 = .int .i64 j ∧ Mem w W [] [own (int .i64) 3 v6 ((r.take (min j 4)).map numB), own (slice (int .i64)) 33 u3 g]) (fun _ v20 _ => r.length - (intOf v20).toNat)
        case atStart => exact ⟨0, Nat.zero_le _, rfl, by simpa using H⟩
        case round =>
          clear H hx0
          obtain ⟨j, hj, rfl, H⟩ := hrel
          by_cases hjl : j < r.length
          · obtain ⟨x, hxj⟩ : ∃ x, r[j]? = some x := ⟨_, List.getElem?_eq_getElem hjl⟩
            obtain ⟨ad2, rfl, hx0⟩ := H.int_at hrow hxj
            obtain ⟨hx1, hx2⟩ := hrb.out x (List.mem_of_getElem? hxj)
            by_cases h4 : j < 4
            · have hnx2 := hide (take_map_snoc r numB j x hxj)
              rw [Nat.min_eq_left (by omega)] at H
              have hsl : ((r.take j).map numB).length ≤ 4 := by simp; omega
              have hv : Hid (numB x = x % 10 - 1) := rfl
              obtain ⟨s, hs⟩ : ∃ s, (r.take j).map numB = s := ⟨_, rfl⟩
              rw [hs] at H hnx2 hsl
              clear hs hxj
              go_wp2_with (first | ((with_reducible refine gate_dst (N := 33) rfl ?_); refine wp_append H rfl _ _ _ (.int .i64 0) 8 rfl Try.underlying33 info_int rfl (by decide) (by decide) (numB x) [.int .i64 (x % 10 - 1)] rfl rfl (fun _ _ => rfl) (by omega) ?_; clear H hx0; intro v1 W1 H))
              go_roundw
              case rel => exact ⟨j + 1, by omega, by go_num, by rw [Nat.min_eq_left (by omega), hnx2.out]; exact H⟩
              case measure => simp [intOf]; omega
            · clear hxj
              go_wp2
              go_roundw
              case rel => exact ⟨j + 1, by omega, by go_num, by rw [Nat.min_eq_right (by omega)]; rw [Nat.min_eq_right (by omega)] at H; exact H⟩
              case measure => simp [intOf]; omega
          · obtain rfl : j = r.length := by omega
            have hfin : Hid ((r.take (min r.length 4)).map numB = rowB r) := by
              rw [rowB]
              congr 1
              rcases Nat.le_total r.length 4 with h | h
              · rw [Nat.min_eq_left h, List.take_of_length_le (Nat.le_refl _), List.take_of_length_le h]
              · rw [Nat.min_eq_right h]
            rw [hfin.out] at H
            obtain ⟨A6, c6, rfl, hc6, H⟩ := H.still
            go_wp2_with (first | ((with_reducible refine gate_dst (N := 38) rfl ?_); refine wp_append H rfl _ _ _ (.slice none 0 0) 24 rfl Try.underlying25 info_ints rfl (by decide) (by decide) (rowB r) [.slice A6 (rowB r).length c6] rfl rfl (slK hc6 (.head _)) (by omega) ?_; clear H; intro v1 W1 H))
            go_roundw
            case rel => exact ⟨k + 1, by omega, by omega, by go_num, by rw [hnx.out]; exact H.dropR⟩
            case measure => simp [intOf]; omega
    · obtain rfl : k = raw.length := by omega
      have hfin : Hid ((raw.take raw.length).map rowB = graphB raw) := by rw [Hid, graphB, List.take_length, List.take_of_length_le hk8]
      rw [hfin.out] at H
      go_wp2
      go_ret
      exact ⟨_, rfl, H⟩
end Go.Proofs.Ytmegjmiiiecnoaa.Gr
