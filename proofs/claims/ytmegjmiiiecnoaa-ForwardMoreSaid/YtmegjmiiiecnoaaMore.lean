/- ForwardMore, walked. -/
import Derived.Test.YtmegjmiiiecnoaaLaw21a
import Derived.Test.YtmegjmiiiecnoaaFwQ
namespace Go.Proofs.Ytmegjmiiiecnoaa.More
open Go.RowKit Go.Proofs.Ytmegjmiiiecnoaa.Mq Go.Proofs.Ytmegjmiiiecnoaa.FwP Go.Proofs.Ytmegjmiiiecnoaa.FwQ Go.Proofs.Ytmegjmiiiecnoaa.Fw Go.Proofs.Ytmegjmiiiecnoaa.Gr Go.Proofs.Ytmegjmiiiecnoaa.Law21
set_option linter.unusedVariables false
set_option linter.unusedSimpArgs false

set_option maxHeartbeats 2000000 in
set_option maxRecDepth 100000 in
theorem more_walk {w : World} {A0 A1 : Option Addr} {raw : List (List Int)} {to : List Bool} {most : Int} {c0 c1 : Nat} (hraw : Row (slice (int .u8)) w (· < w.heap.size) A0 raw) (hb : ∀ r ∈ raw, ∀ x ∈ r, 0 ≤ x ∧ x ≤ 255)
    (hto : Row bool w (· < w.heap.size) A1 to) (hm0 : -128 ≤ most) (hm1 : most ≤ 127) :
    Calls Try.prog 6 #[.slice A0 raw.length c0, .slice A1 to.length c1, .int .i8 most] w fun e W => e = .returned (.bool true) ∧ Mem w W [] [] := by
  have H := MemM.start w
  have hb := hide hb
  have hnode := hide (more_node (graphB raw) to most)
  have l1 := hide (hopsB_len (graphB raw) to most)
  have l2 := hide (hopsB_len (graphB raw) to (most + 5))
  have l3 := hide (reachB_len (graphB raw) to)
  have hgl := graphB_len raw
  obtain ⟨g, hg⟩ : ∃ g, Hid (graphB raw = g) := ⟨_, rfl⟩
  rw [hg.out] at hnode l1 l2 l3 hgl
  obtain ⟨a, ha⟩ : ∃ a, Hid (hopsB g to most = a) := ⟨_, rfl⟩
  obtain ⟨b, hbb⟩ : ∃ b, Hid (hopsB g to (most + 5) = b) := ⟨_, rfl⟩
  obtain ⟨rr, hrr⟩ : ∃ rr, Hid (reachB g to = rr) := ⟨_, rfl⟩
  rw [ha.out] at hnode l1; rw [hbb.out] at hnode l2; rw [hrr.out] at hnode l3
  have e1 : ((a.length : Int) != (g.length : Int)) = false := by rw [l1.out]; simp
  have e2 : ((b.length : Int) != (g.length : Int)) = false := by rw [l2.out]; simp
  have e3 : ((rr.length : Int) != (g.length : Int)) = false := by rw [l3.out]; simp
  go_enter Try.func6, Try.ntmps6
  go_wp2_with fail
  refine (awake_calls).mono ?_; rintro e W1 ⟨rfl, hm⟩; have H := H.call hm; clear hm
  go_wp2_with fail
  refine (graph_calls (H.arg hraw) hb.out).mono ?_; rintro e W2 ⟨v1, rfl, hm⟩; have H := H.call hm; clear hm; rw [hg.out] at H; obtain ⟨A7, c7, rfl, -, hrg⟩ := H.rd (.head _)
  go_wp2_with fail
  refine (hops_calls hrg (H.arg hto) (by omega)).mono ?_; rintro e W3 ⟨v8, rfl, hm⟩; have H := H.call hm; clear hm hrg; rw [ha.out] at H; obtain ⟨-, -, hrg⟩ := H.rdx (.tail _ (.head _))
  go_wp2_with fail
  refine (hops_calls hrg (H.arg hto) (by omega)).mono ?_; rintro e W4 ⟨v9, rfl, hm⟩; have H := H.call hm; clear hm hrg; rw [hbb.out] at H; obtain ⟨-, -, hrg⟩ := H.rdx (.tail _ (.tail _ (.head _)))
  go_wp2_with fail
  refine (reach_calls hrg (H.arg hto) (by omega)).mono ?_; rintro e W5 ⟨v10, rfl, hm⟩; have H := H.call hm; clear hm hrg; rw [hrr.out] at H
  obtain ⟨A8, c8, rfl, -, -⟩ := H.rd (.tail _ (.tail _ (.head _)))
  obtain ⟨A9, c9, rfl, -, -⟩ := H.rd (.tail _ (.head _))
  obtain ⟨A10, c10, rfl, -, -⟩ := H.rd (.head _)
  go_wp2_with fail
  go_loopw [52] (fun v52 W => ∃ k : Nat, k ≤ g.length ∧ v52 = .int .i64 k ∧ Mem w W [] [own bool 4 (.slice A10 rr.length c10) rr, own (slice (int .i64)) 33 (.slice A9 b.length c9) b, own (slice (int .i64)) 33 (.slice A8 a.length c8) a]) (fun v52 _ => g.length - (intOf v52).toNat)
  case atStart => exact ⟨0, Nat.zero_le _, rfl, H.perm (by exact .refl _) |> fun h => (MemM.perm (l1 := [_, _, _, _]) h (.refl _)).perm (List.reverse_perm _).symm |>.drop |>.perm (List.reverse_perm _).symm⟩
  case round =>
    clear H
    obtain ⟨k, hk, rfl, H⟩ := hrel
    by_cases hlt : k < g.length
    · obtain ⟨ak, bk, r, h1, h2, h3, hab, hbr, hpre⟩ := hnode.out k hlt
      have hpre := hide hpre
      obtain ⟨-, -, ra⟩ := H.rdx (.tail _ (.tail _ (.head _)))
      obtain ⟨-, -, rb⟩ := H.rdx (.tail _ (.head _))
      obtain ⟨-, -, rc⟩ := H.rdx (.head _)
      obtain ⟨a8, Aa, ca, rfl, hxa, hca, hra⟩ := ra.row1 h1
      obtain ⟨a9, Ab, cb, rfl, hxb, hcb, hrb⟩ := rb.row1 h2
      obtain ⟨a10, rfl, hxc⟩ := rc.bool1 h3
      have k1 : k < a.length := by rw [l1.out]; exact hlt
      have k2 : k < b.length := by rw [l2.out]; exact hlt
      have k3 : k < rr.length := by rw [l3.out]; exact hlt
      have hg1 : decide (bk.length < ak.length) = false := by simp; omega
      clear ra rb rc
      have h1 := hide h1; have h2 := hide h2
      clear h3
      have ham := hra.len
      unfold maxLen at ham
      rcases (show (r = true ∧ 0 < bk.length) ∨ ¬ 0 < bk.length from (Nat.lt_or_ge 0 bk.length).elim (fun h => .inl ⟨hbr h, h⟩) (fun h => .inr (by omega))) with ⟨rfl, hb0⟩ | hb0
      all_goals
        clear hbr
        go_wp2
        go_quiet (fail)
        go_wp2
        go_loopw [86] (fun v86 W => ∃ i : Nat, i ≤ ak.length ∧ v86 = .int .i64 i ∧ Mem w W [] [own bool 4 (.slice (some a10) rr.length c10) rr, own (slice (int .i64)) 33 (.slice (some a9) b.length c9) b, own (slice (int .i64)) 33 (.slice (some a8) a.length c8) a]) (fun v86 _ => ak.length - (intOf v86).toNat)
        case atStart => exact ⟨0, Nat.zero_le _, rfl, H.drewN _⟩
        case round =>
          clear H hxa hxb hxc hra hrb hca hcb
          obtain ⟨i, hi, rfl, H⟩ := hrel
          by_cases hil : i < ak.length
          · obtain ⟨x, hx⟩ : ∃ x, ak[i]? = some x := ⟨_, List.getElem?_eq_getElem hil⟩
            have hy := hpre.out i x hx
            obtain ⟨-, -, ra⟩ := H.rdx (.tail _ (.tail _ (.head _)))
            obtain ⟨-, -, rb⟩ := H.rdx (.tail _ (.head _))
            obtain ⟨_, Aa, ca, e, hxa, -, hra⟩ := ra.row1 h1.out
            cases e
            obtain ⟨_, Ab, cb, e, hxb, -, hrb⟩ := rb.row1 h2.out
            cases e
            obtain ⟨aa, rfl, hx0⟩ := hra.int1 hx
            obtain ⟨ab, rfl, hy0⟩ := hrb.int1 hy
            have k4 : i < bk.length := by omega
            clear ra rb hra hrb hx hy
            go_wp2
            go_quiet (fail)
            go_wp2
            go_roundw
            case rel => exact ⟨i + 1, by omega, by go_num, H.drewN _⟩
            case measure => simp [intOf]; omega
          · obtain rfl : i = ak.length := by omega
            go_wp2
            go_roundw
            case rel => exact ⟨k + 1, by omega, by go_num, H⟩
            case measure => simp [intOf]; omega
    · go_wp2
      go_ret
      exact ⟨rfl, H.drop.drop.drop⟩
end Go.Proofs.Ytmegjmiiiecnoaa.More
