/- ForwardStep, walked. -/
import Derived.Test.YtmegjmiiiecnoaaLaw21a
import Derived.Test.YtmegjmiiiecnoaaFwQ
namespace Go.Proofs.Ytmegjmiiiecnoaa.Step
open Go.RowKit Go.Proofs.Ytmegjmiiiecnoaa.Mq Go.Proofs.Ytmegjmiiiecnoaa.FwP Go.Proofs.Ytmegjmiiiecnoaa.FwQ Go.Proofs.Ytmegjmiiiecnoaa.Fw Go.Proofs.Ytmegjmiiiecnoaa.Gr Go.Proofs.Ytmegjmiiiecnoaa.Law21
set_option linter.unusedVariables false
set_option linter.unusedSimpArgs false

set_option maxHeartbeats 1000000 in
set_option maxRecDepth 100000 in
theorem has_calls {w : World} {A : Option Addr} {ns : List Int} {c : Nat} {n : Int} (h : Row (int .i64) w (· < w.heap.size) A ns) :
    Calls Try.prog 14 #[.slice A ns.length c, .int .i64 n] w fun e W => e = .returned (.bool (hasB ns n)) ∧ w = W := by
  have hl := h.len
  unfold maxLen at hl
  go_enter Try.func14, Try.ntmps14
  go_wp2
  go_loop [9] (fun v9 => ∃ k : Nat, k ≤ ns.length ∧ v9 = .int .i64 k ∧ Hid (hasB (ns.take k) n = false)) (fun v9 => ns.length - (intOf v9).toNat)
  case atStart => exact ⟨0, Nat.zero_le _, rfl, rfl⟩
  case round =>
    obtain ⟨k, hk, rfl, hf⟩ := hrel
    by_cases hlt : k < ns.length
    · obtain ⟨x, hx⟩ : ∃ x, ns[k]? = some x := ⟨_, List.getElem?_eq_getElem hlt⟩
      obtain ⟨ad, rfl, hc⟩ := h.int1 hx
      have hs : Hid (hasB (ns.take (k + 1)) n = (hasB (ns.take k) n || (x == n))) := by unfold hasB; exact any_snoc ns _ k x hx
      have hm := List.mem_of_getElem? hx
      by_cases he : x = n
      · have hfin : Hid (hasB ns n = true) := by unfold hasB; rw [Hid, List.any_eq_true]; exact ⟨x, hm, by simp [he]⟩
        have e1 : (x == n) = true := by simp [he]
        have e2 : (x != n) = false := by simp [he]
        clear he hx hm
        go_wp2
        go_ret
        exact ⟨by rw [hfin.out]; rfl, rfl⟩
      · have e1 : (x == n) = false := by simp [he]
        have e2 : (x != n) = true := by simp [he]
        have hs := hide (show hasB (ns.take (k + 1)) n = false by rw [hs.out, hf.out, e1]; rfl)
        clear he hx hm
        go_wp2
        go_round
        case rel => exact ⟨k + 1, by omega, by go_num, hs⟩
        case measure => simp [intOf]; omega
    · obtain rfl : k = ns.length := by omega
      have hf : Hid (hasB ns n = false) := by have := hf.out; rwa [List.take_length] at this
      go_wp2
      go_ret
      exact ⟨by rw [hf.out]; rfl, rfl⟩

set_option maxHeartbeats 4000000 in
set_option maxRecDepth 100000 in
theorem step_walk {w : World} {A0 A1 : Option Addr} {raw : List (List Int)} {to : List Bool} {c0 c1 : Nat} (hraw : Row (slice (int .u8)) w (· < w.heap.size) A0 raw) (hb : ∀ r ∈ raw, ∀ x ∈ r, 0 ≤ x ∧ x ≤ 255)
    (hto : Row bool w (· < w.heap.size) A1 to) :
    Calls Try.prog 4 #[.slice A0 raw.length c0, .slice A1 to.length c1] w fun e W => e = .returned (.bool true) ∧ Mem w W [] [] := by
  have H := MemM.start w
  have hb := hide hb
  have hgl := graphB_len raw
  obtain ⟨g, hg⟩ : ∃ g, Hid (graphB raw = g) := ⟨_, rfl⟩
  rw [hg.out] at hgl
  have hp := hide (pad_len g.length to)
  have hlen := hide (hopsB_len g to 20)
  have hget : Hid (∀ k, k < g.length → (hopsB g to 20)[k]? = some (hopRow g (pad g.length to) k 21)) := fun k hk => hopsB_get g to 20 k hk
  have hpg := hide (pad_get g.length to)
  obtain ⟨p, hpd⟩ : ∃ p, Hid (pad g.length to = p) := ⟨_, rfl⟩
  rw [hpd.out] at hp hget hpg
  obtain ⟨hs, hhs⟩ : ∃ hs, Hid (hopsB g to 20 = hs) := ⟨_, rfl⟩
  rw [hhs.out] at hlen hget
  have e1 : ((hs.length : Int) != (g.length : Int)) = false := by rw [hlen.out]; simp
  go_enter Try.func4, Try.ntmps4
  go_wp2_with fail
  refine (awake_calls).mono ?_; rintro e W1 ⟨rfl, hm⟩; have H := H.call hm; clear hm
  go_wp2_with fail
  refine (graph_calls (H.arg hraw) hb.out).mono ?_; rintro e W2 ⟨v1, rfl, hm⟩; have H := H.call hm; clear hm; rw [hg.out] at H; obtain ⟨A5, c5, rfl, -, hrg⟩ := H.rd (.head _)
  go_wp2_with fail
  refine (hops_calls hrg (H.arg hto) (by omega)).mono ?_; rintro e W3 ⟨v8, rfl, hm⟩; have H := H.call hm; clear hm hrg; rw [hhs.out] at H
  obtain ⟨A6, c6, rfl, -, hrh⟩ := H.rd (.head _)
  obtain ⟨-, -, hrg⟩ := H.rdx (.tail _ (.head _))
  go_wp2
  go_loop [27] (fun v27 => ∃ k : Nat, k ≤ g.length ∧ v27 = .int .i64 k) (fun v27 => g.length - (intOf v27).toNat)
  case atStart => exact ⟨0, Nat.zero_le _, rfl⟩
  case round =>
    obtain ⟨k, hk, rfl⟩ := hrel
    by_cases hlt : k < g.length
    · obtain ⟨r, hr⟩ : ∃ r, g[k]? = some r := ⟨_, List.getElem?_eq_getElem hlt⟩
      obtain ⟨a5, Ar, cr, rfl, hxr, hcr, hrr⟩ := hrg.row1 hr
      have hrm := hrr.len
      unfold maxLen at hrm
      obtain ⟨a6, Ak, ck, rfl, hxk, hck, hrk⟩ := hrh.row1 (hget.out k hlt)
      have klt : k < hs.length := by rw [hlen.out]; exact hlt
      have hnext := hide (fun n => itB_next g p k n r hr)
      clear hr
      obtain ⟨rk, hrkd⟩ : ∃ rk, Hid (hopRow g p k 21 = rk) := ⟨_, rfl⟩
      rw [hrkd.out] at hxk hck hrk
      go_wp2
      go_loop [9] (fun v9 => ∃ n : Nat, 1 ≤ n ∧ n ≤ 21 ∧ v9 = .int .i64 n) (fun v9 => 21 - (intOf v9).toNat)
      case atStart => exact ⟨1, by omega, by omega, rfl⟩
      case round =>
        obtain ⟨n, hn1, hn2, rfl⟩ := hrel
        by_cases hn : n ≤ 20
        · obtain ⟨m, rfl⟩ : ∃ m, n = m + 1 := ⟨n - 1, by omega⟩
          have hnx := hide (hnext.out m)
          obtain ⟨q, hq⟩ : ∃ q, Hid (itB g m p = q) := ⟨_, rfl⟩
          have hql : Hid (q.length = g.length) := by have := itB_len g p hp.out m; rwa [hq.out] at this
          rw [hq.out] at hnx
          have hhas : Hid (∀ (k : Nat) b, q[k]? = some b → hasB (hopRow g p k 21) m = b) := fun k b hb => hasB_hop g p k 21 m (by omega) b (by rw [hq.out]; exact hb)
          have hhk : Hid (hasB rk ((m + 1 : Nat) : Int) = r.any (hit q)) := by have := hasB_hop g p k 21 (m + 1) (by omega) _ hnx.out; rwa [hrkd.out] at this
          go_wp2
          go_loop [10, 39] (fun v10 v39 => ∃ j : Nat, j ≤ r.length ∧ v39 = .int .i64 j ∧ v10 = .bool ((r.take j).any (hit q))) (fun _ v39 => r.length - (intOf v39).toNat)
          case atStart => exact ⟨0, Nat.zero_le _, rfl, rfl⟩
          case round =>
            obtain ⟨j, hj, rfl, rfl⟩ := hrel
            by_cases hjl : j < r.length
            · obtain ⟨x, hx⟩ : ∃ x, r[j]? = some x := ⟨_, List.getElem?_eq_getElem hjl⟩
              obtain ⟨ar, rfl, hx0⟩ := hrr.int1 hx
              have hsn := hide (any_snoc r (hit q) j x hx)
              clear hx
              obtain ⟨b, hb⟩ : ∃ b, Hid ((r.take j).any (hit q) = b) := ⟨_, rfl⟩
              rw [hb.out] at hsn ⊢
              have hfin : Hid (∀ c, (b || hit q x) = c → Value.bool c = Value.bool ((r.take (j + 1)).any (hit q))) := fun c hc => by rw [hsn.out, hc]
              by_cases hin : 0 ≤ x ∧ x < g.length
              · obtain ⟨h0, h1⟩ := hin
                obtain ⟨y, hy⟩ : ∃ y, q[x.toNat]? = some y := ⟨_, List.getElem?_eq_getElem (by rw [hql.out]; omega)⟩
                have hv := hide (hit_in h0 (by rw [hql.out]; exact h1) hy)
                have hh := hide (hhas.out _ _ hy)
                obtain ⟨_, Ax, cx, e, hxx, hcx, hrx⟩ := hrh.row1 (hget.out x.toNat (by omega))
                cases e
                have h2 : x < (hs.length : Int) := by rw [hlen.out]; exact h1
                clear hy
                obtain ⟨row, hrowd⟩ : ∃ row, Hid (hopRow g p x.toNat 21 = row) := ⟨_, rfl⟩
                rw [hrowd.out] at hxx hcx hrx hh
                cases b
                · go_wp2_with (go_at_call 14; refine (has_calls hrx).mono ?_; rintro e W' ⟨rfl, rfl⟩)
                  go_round
                  case rel => exact ⟨j + 1, by omega, by go_num, hfin.out _ (by rw [hv.out, ← hh.out]; try rfl)⟩
                  case measure => simp [intOf]; omega
                · go_wp2
                  go_round
                  case rel => exact ⟨j + 1, by omega, by go_num, hfin.out true (Bool.true_or _)⟩
                  case measure => simp [intOf]; omega
              · have hv : Hid (hit q x = false) := hit_out (by rw [hql.out]; exact hin)
                by_cases h0 : 0 ≤ x
                · have h1 : ¬ x < g.length := fun h => hin ⟨h0, h⟩
                  cases b
                  all_goals
                    go_wp2
                    go_round
                    case rel => exact ⟨j + 1, by omega, by go_num, hfin.out _ (by rw [hv.out]; try rfl)⟩
                    case measure => simp [intOf]; omega
                · cases b
                  all_goals
                    go_wp2
                    go_round
                    case rel => exact ⟨j + 1, by omega, by go_num, hfin.out _ (by rw [hv.out]; try rfl)⟩
                    case measure => simp [intOf]; omega
            · obtain rfl : j = r.length := by omega
              rw [List.take_length]
              obtain ⟨z, hz⟩ : ∃ z, Hid (r.any (hit q) = z) := ⟨_, rfl⟩
              rw [hz.out] at hhk ⊢
              go_wp2_with (go_at_call 14; refine (has_calls hrk).mono ?_; rintro e W' ⟨rfl, rfl⟩; rw [show hasB rk ((m : Int) + 1) = z from hhk.out])
              cases z
              all_goals
                go_wp2
                go_round
                case rel => exact ⟨m + 2, by omega, by omega, by go_num⟩
                case measure => simp [intOf]; omega
        · obtain rfl : n = 21 := by omega
          have hk0 : Hid (hasB rk (0 : Int) = (decide (k < to.length) && to.getD k false)) := by
            have := hasB_hop g p k 21 0 (by omega) _ (hpg.out k hlt)
            rwa [hrkd.out] at this
          by_cases hkt : k < to.length
          · obtain ⟨y, hy⟩ : ∃ y, to[k]? = some y := ⟨_, List.getElem?_eq_getElem hkt⟩
            have hk1 : Hid (hasB rk (0 : Int) = y) := by rw [Hid, hk0.out, List.getD_eq_getElem?_getD, hy]; simp [hkt]
            obtain ⟨at_, rfl, hx1⟩ := H.bool_at hto hy
            clear hy
            go_wp2_with (go_at_call 14; refine (has_calls hrk).mono ?_; rintro e W' ⟨rfl, rfl⟩; rw [hk1.out])
            cases y
            all_goals
              go_wp2
              go_round
              case rel => exact ⟨k + 1, by omega, by go_num⟩
              case measure => simp [intOf]; omega
          · have hk1 : Hid (hasB rk (0 : Int) = false) := by rw [Hid, hk0.out]; simp [hkt]
            go_wp2_with (go_at_call 14; refine (has_calls hrk).mono ?_; rintro e W' ⟨rfl, rfl⟩; rw [hk1.out])
            go_round
            case rel => exact ⟨k + 1, by omega, by go_num⟩
            case measure => simp [intOf]; omega
    · go_wp2
      go_ret
      exact ⟨rfl, H.drop.drop⟩
end Go.Proofs.Ytmegjmiiiecnoaa.Step
