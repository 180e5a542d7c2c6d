/- Texts of this work, joined: Fw, PLmx28, PLmx29, PLmx30. -/
import Derived.Test.YtcagkdgpoijkoaaProg
import Derived.Test.YtcagkdgpoijkoaaMq
import Derived.Test.YtcagkdgpoijkoaaJ12
import Derived.Test.YtcagkdgpoijkoaaShort
import Derived.Test.YtcagkdgpoijkoaaSh2
import Derived.Test.YtcagkdgpoijkoaaPLmx0
section
namespace Go.Proofs.Ytcagkdgpoijkoaa.Fw
open Go.RowKit Go.Proofs.Ytcagkdgpoijkoaa.Mq Go.Proofs.Ytcagkdgpoijkoaa.FwP
set_option linter.unusedVariables false
set_option linter.unusedSimpArgs false
attribute [local go_sem] max2_int min2_int max_two min_two
theorem info_bool : (Try.prog.info? 4).map (fun i => (i.zero, i.size, i.bytes)) = some (some (.bool false), 1, 1) := by kernel_rfl
theorem info_int : (Try.prog.info? 3).map (fun i => (i.zero, i.size, i.bytes)) = some (some (.int .i64 0), 1, 8) := by kernel_rfl
theorem info_ints : (Try.prog.info? 29).map (fun i => (i.zero, i.size, i.bytes)) = some (some (.slice none 0 0), 1, 24) := by kernel_rfl
set_option maxHeartbeats 1000000 in
set_option maxRecDepth 100000 in
theorem step_calls {w : World} {A0 A1 : Option Addr} {g : List (List Int)} {to_ : List Bool} {c0 c1 : Nat} (hg : Row (slice (int .i64)) w (· < w.heap.size) A0 g) (hto : Row bool w (· < w.heap.size) A1 to_) (hgl : g.length ≤ 281474976710656) :
    Calls Try.prog 29 #[.slice A0 g.length c0, .slice A1 to_.length c1] w fun e W => ∃ v, e = .returned v ∧ Mem w W [] [own bool 4 v (stepB g to_)] := by
  have H := MemM.start w; go_enter Try.func29, Try.ntmps29; go_wp2_with (first | ((with_reducible refine gate_dst (N := 12) rfl ?_); refine wp_make H bool 4 rfl 28 _ _ rfl g.length rfl rfl Try.underlying28 (.bool false) 1 info_bool rfl (by decide) (by decide) false (fun _ => rfl) (by omega) ?_; clear H; intro g5 W5 H)); rw [← stepN_zero g to_] at H; go_loopw [15] (fun v15 W => ∃ k : Nat, k ≤ g.length ∧ v15 = .int .i64 k ∧ Mem w W [] [own bool 4 (.slice (some ⟨g5, 0, none⟩) g.length g.length) (stepN g to_ k)]) (fun v15 _ => g.length - (intOf v15).toNat)
  case atStart => exact ⟨0, Nat.zero_le _, rfl, H⟩
  case round =>
    clear H; obtain ⟨k, hk, rfl, H⟩ := hrel; by_cases hlt : k < g.length
    · obtain ⟨r, hr⟩ : ∃ r, g[k]? = some r := ⟨_, List.getElem?_eq_getElem hlt⟩
      obtain ⟨ad, A2, c2, rfl, hx0, hc2, hrow⟩ := H.row_at hg hr; have hrm := hrow.len; unfold maxLen at hrm; go_wp2; go_loopw [22] (fun v22 W => ∃ j : Nat, j ≤ r.length ∧ v22 = .int .i64 j ∧ Mem w W [] [own bool 4 (.slice (some ⟨g5, 0, none⟩) g.length g.length) (stepI g to_ k r j)]) (fun v22 _ => r.length - (intOf v22).toNat)
      case atStart => exact ⟨0, Nat.zero_le _, rfl, by rw [stepI_zero g to_ k r hlt]; exact H⟩
      case round =>
        clear H hx0; obtain ⟨j, hj, rfl, H⟩ := hrel; by_cases hjl : j < r.length
        · obtain ⟨x, hxj⟩ : ∃ x, r[j]? = some x := ⟨_, List.getElem?_eq_getElem hjl⟩
          obtain ⟨ad2, rfl, hx0⟩ := H.int_at hrow hxj; obtain ⟨hc0, hfz⟩ := H.bool_cell (.head _) (stepI_get g to_ k r j hlt); (have fin := fun c hc => stepI_set g to_ k r j x hxj c hc); (have HF := fun c => H.setB (i := k) (by rw [stepI_len g to_ k r j hlt]; exact hlt) c); obtain ⟨b, hb⟩ : ∃ b, (r.take j).any (hit to_) = b := ⟨_, rfl⟩; rw [hb] at hc0 fin; clear hb; have fin := hide fin; by_cases hin : 0 ≤ x ∧ x < to_.length
          · obtain ⟨h0, h1⟩ := hin
            obtain ⟨y, hy⟩ : ∃ y, to_[x.toNat]? = some y := ⟨_, List.getElem?_eq_getElem (by omega)⟩; obtain ⟨ad1, rfl, hx1⟩ := H.bool_at hto hy; have hv : Hid (hit to_ x = y) := hit_in h0 h1 hy; clear hy; cases b
            all_goals
              go_wp2; go_roundw
              case rel => exact ⟨j + 1, by omega, by go_num, by rw [← fin.out _ (by rw [hv.out]; try rfl)]; exact HF _⟩
              case measure => simp [intOf]; omega
          · have hv : Hid (hit to_ x = false) := hit_out hin
            by_cases h0 : 0 ≤ x
            · have h1 : ¬ x < to_.length := fun h => hin ⟨h0, h⟩
              cases b
              all_goals
                go_wp2; go_roundw
                case rel => exact ⟨j + 1, by omega, by go_num, by rw [← fin.out _ (by rw [hv.out]; try rfl)]; exact HF _⟩
                case measure => simp [intOf]; omega
            · cases b
              all_goals
                go_wp2; go_roundw
                case rel => exact ⟨j + 1, by omega, by go_num, by rw [← fin.out _ (by rw [hv.out]; try rfl)]; exact HF _⟩
                case measure => simp [intOf]; omega
        · obtain rfl : j = r.length := by omega
          rw [stepI_all g to_ k r hr] at H; go_wp2; go_roundw
          case rel => exact ⟨k + 1, by omega, by go_num, H⟩
          case measure => simp [intOf]; omega
    · obtain rfl : k = g.length := by omega
      rw [stepN_all] at H; go_wp2; go_ret; exact ⟨_, rfl, H⟩
theorem step_calls' {w : World} {A0 A1 : Option Addr} {g : List (List Int)} {to_ : List Bool} {c0 c1 n : Nat} (hn : n = to_.length) (hg : Row (slice (int .i64)) w (· < w.heap.size) A0 g) (hto : Row bool w (· < w.heap.size) A1 to_) (hgl : g.length ≤ 281474976710656) :
    Calls Try.prog 29 #[.slice A0 g.length c0, .slice A1 n c1] w fun e W => ∃ v, e = .returned v ∧ Mem w W [] [own bool 4 v (stepB g to_)] := by
  subst hn; exact step_calls hg hto hgl
set_option maxHeartbeats 1000000 in
set_option maxRecDepth 100000 in
theorem loops_calls {w : World} {A0 : Option Addr} {g : List (List Int)} {c0 : Nat} (hg : Row (slice (int .i64)) w (· < w.heap.size) A0 g) (hgl : g.length ≤ 281474976710656) :
    Calls Try.prog 16 #[.slice A0 g.length c0] w fun e W => ∃ v, e = .returned v ∧ Mem w W [] [own bool 4 v (loopsB g)] := by
  have H := MemM.start w; go_enter Try.func16, Try.ntmps16; go_wp2_with (first | ((with_reducible refine gate_dst (N := 7) rfl ?_); refine wp_make H bool 4 rfl 28 _ _ rfl g.length rfl rfl Try.underlying28 (.bool false) 1 info_bool rfl (by decide) (by decide) false (fun _ => rfl) (by omega) ?_; clear H; intro g5 W5 H)); rw [← trues_zero] at H; go_loopw [10] (fun v10 W => ∃ k : Nat, k ≤ g.length ∧ v10 = .int .i64 k ∧ Mem w W [] [own bool 4 (.slice (some ⟨g5, 0, none⟩) g.length g.length) (trues g.length k)]) (fun v10 _ => g.length - (intOf v10).toNat)
  case atStart => exact ⟨0, Nat.zero_le _, rfl, H⟩
  case round =>
    clear H; obtain ⟨k, hk, rfl, H⟩ := hrel; by_cases hlt : k < g.length
    · obtain ⟨hc0, hfz⟩ := H.bool_cell (.head _) (trues_get g.length k hlt)
      have HF := H.setB (i := k) (by rw [trues_len g.length k hk]; exact hlt) true; rw [trues_succ g.length k hlt] at HF; go_wp2; go_roundw
      case rel => exact ⟨k + 1, by omega, by go_num, HF⟩
      case measure => simp [intOf]; omega
    · obtain rfl : k = g.length := by omega
      rw [trues_all] at H; go_wp2; go_loopw [3, 19] (fun v3 v19 W => ∃ k : Nat, k ≤ g.length ∧ v19 = .int .i64 k ∧ Mem w W [] [own bool 4 v3 (itB g k (List.replicate g.length true))]) (fun _ v19 _ => g.length - (intOf v19).toNat)
      case atStart => exact ⟨0, Nat.zero_le _, rfl, H⟩
      case round =>
        clear H; obtain ⟨k, hk, rfl, H⟩ := hrel; by_cases hlt : k < g.length
        · obtain ⟨A3, c3, rfl, -, hb⟩ := H.rd (.head _)
          go_wp2_with (go_at_call 29; refine (step_calls (H.arg hg) hb hgl).mono ?_; rintro e W1 ⟨v, rfl, hm⟩; have H := (H.call hm).pull1.drop; clear hm); go_roundw
          case rel => exact ⟨k + 1, by omega, by go_num, H⟩
          case measure => simp [intOf]; omega
        · obtain rfl : k = g.length := by omega
          go_wp2; go_ret; exact ⟨_, rfl, H⟩
set_option maxHeartbeats 1000000 in
set_option maxRecDepth 100000 in
theorem reach_calls {w : World} {A0 A1 : Option Addr} {g : List (List Int)} {to_ : List Bool} {c0 c1 : Nat} (hg : Row (slice (int .i64)) w (· < w.heap.size) A0 g) (hto : Row bool w (· < w.heap.size) A1 to_) (hgl : g.length ≤ 281474976710656) :
    Calls Try.prog 15 #[.slice A0 g.length c0, .slice A1 to_.length c1] w fun e W => ∃ v, e = .returned v ∧ Mem w W [] [own bool 4 v (reachB g to_)] := by
  have H := MemM.start w; go_enter Try.func15, Try.ntmps15; go_wp2_with (first | ((with_reducible refine gate_dst (N := 10) rfl ?_); refine wp_make H bool 4 rfl 28 _ _ rfl g.length rfl rfl Try.underlying28 (.bool false) 1 info_bool rfl (by decide) (by decide) false (fun _ => rfl) (by omega) ?_; clear H; intro g5 W5 H) | ((with_reducible refine gate_dst (N := 13) rfl ?_); refine wp_copy H rfl _ _ _ _ rfl Try.underlying28 (by kernel_rfl) rfl (fun h => h) to_ A1 c1 rfl rfl (H.arg hto) ?_; clear H; intro W6 H)); rw [pad_of] at H; have hpl := hide (pad_len g.length to_); go_loopw [16] (fun v16 W => ∃ k : Nat, k ≤ g.length ∧ v16 = .int .i64 k ∧ Mem w W [] [own bool 4 (.slice (some ⟨g5, 0, none⟩) g.length g.length) (reachIt g k (pad g.length to_))]) (fun v16 _ => g.length - (intOf v16).toNat)
  case atStart => exact ⟨0, Nat.zero_le _, rfl, H⟩
  case round =>
    clear H; obtain ⟨k, hk, rfl, H⟩ := hrel; by_cases hlt : k < g.length
    · have hl := hide (reachIt_len g _ hpl.out k)
      have hs := hide (show (stepB g (reachIt g k (pad g.length to_))).length = (reachIt g k (pad g.length to_)).length by rw [stepB_len, hl.out]); have hnx : Hid (reachIt g (k + 1) (pad g.length to_) = orB (reachIt g k (pad g.length to_)) (stepB g (reachIt g k (pad g.length to_)))) := rfl; obtain ⟨out, hout⟩ : ∃ out, reachIt g k (pad g.length to_) = out := ⟨_, rfl⟩; rw [hout] at H hl hs hnx; clear hout; obtain ⟨-, -, hb⟩ := H.rdx (.head _); go_wp2_with (go_at_call 29; refine (step_calls' (hl.out.symm) (H.arg hg) hb hgl).mono ?_; rintro e W1 ⟨v, rfl, hm⟩; have H := (H.call hm).pull1; clear hm hb; obtain ⟨A4, c4, rfl, -, -⟩ := H.rd (.tail _ (.head _))); have hz := hide (orN_zero out (stepB g out)); rw [← hz.out] at H; go_loopw [22] (fun v22 W => ∃ j : Nat, j ≤ out.length ∧ v22 = .int .i64 j ∧ Mem w W [] [own bool 4 (.slice (some ⟨g5, 0, none⟩) g.length g.length) (orN out (stepB g out) j), own bool 4 (.slice A4 (stepB g out).length c4) (stepB g out)]) (fun v22 _ => out.length - (intOf v22).toNat)
      case atStart => exact ⟨0, Nat.zero_le _, rfl, H⟩
      case round =>
        clear H; obtain ⟨j, hj, rfl, H⟩ := hrel; by_cases hjl : j < out.length
        · obtain ⟨b, hb⟩ : ∃ b, out[j]? = some b := ⟨_, List.getElem?_eq_getElem hjl⟩
          obtain ⟨c, hc⟩ : ∃ c, (stepB g out)[j]? = some c := ⟨_, List.getElem?_eq_getElem (by rw [hs.out]; exact hjl)⟩; obtain ⟨hc0, hfz⟩ := H.bool_cell (.head _) (orN_get out _ j b hs.out hb); obtain ⟨-, -, hrow⟩ := H.rdx (.tail _ (.head _)); obtain ⟨ad4, cs, rfl, -, rfl, hx⟩ := hrow.at_ hc; have hx0 := hx 0 _ rfl; rw [show (Mq.bool).sz = 1 from rfl, Nat.mul_one, Nat.add_zero] at hx0; have HF := H.setB (i := j) (by rw [orN_len out _ j hs.out hj]; exact hjl) (b || c); rw [orN_succ out _ j b c hs.out hb hc] at HF; (have h1 : j < (stepB g out).length := by rw [hs.out]; exact hjl); (have h2 : j < g.length := by rw [← hl.out]; exact hjl); clear hx hrow hb hc; cases b
          all_goals
            go_wp2; go_roundw
            case rel => exact ⟨j + 1, by omega, by go_num, HF⟩
            case measure => simp [intOf]; omega
        · obtain rfl : j = out.length := by omega
          have H := H; rw [orN_all out _ hs.out] at H; (have h1 : ¬ out.length < (stepB g out).length := by rw [hs.out]; omega); go_wp2; go_roundw
          case rel => exact ⟨k + 1, by omega, by go_num, by rw [hnx.out]; exact H.pull1.drop⟩
          case measure => simp [intOf]; omega
    · obtain rfl : k = g.length := by omega
      go_wp2; go_ret; exact ⟨_, rfl, H⟩
set_option maxHeartbeats 1000000 in
set_option maxRecDepth 100000 in
theorem hops_calls {w : World} {A0 A1 : Option Addr} {g : List (List Int)} {to_ : List Bool} {most : Int} {c0 c1 : Nat} (hg : Row (slice (int .i64)) w (· < w.heap.size) A0 g) (hto : Row bool w (· < w.heap.size) A1 to_) (hgl : g.length ≤ 1000000000) :
    Calls Try.prog 19 #[.slice A0 g.length c0, .slice A1 to_.length c1, .int .i64 most] w fun e W => ∃ v, e = .returned v ∧ Mem w W [] [own (slice (int .i64)) 29 v (hopsB g to_ most)] := by
  have H := MemM.start w; go_enter Try.func19, Try.ntmps19; go_wp2_with (first | ((with_reducible refine gate_dst (N := 14) rfl ?_); refine wp_make H raw 29 rfl 43 _ _ rfl g.length rfl rfl Try.underlying43 (.slice none 0 0) 24 info_ints rfl (by decide) (by decide) nilCell (fun _ => rfl) (by omega) ?_; clear H; intro g7 W7 H) | ((with_reducible refine gate_dst (N := 17) rfl ?_); refine wp_make H bool 4 rfl 28 _ _ rfl g.length rfl rfl Try.underlying28 (.bool false) 1 info_bool rfl (by decide) (by decide) false (fun _ => rfl) (by omega) ?_; clear H; intro g8 W8 H) | ((with_reducible refine gate_dst (N := 20) rfl ?_); refine wp_copy H rfl _ _ _ _ rfl Try.underlying28 (by kernel_rfl) rfl (fun h => h) to_ A1 c1 rfl rfl (H.arg hto) ?_; clear H; intro W6 H)); rw [pad_of] at H; have H := (MemM.nilRows H.pull1 (int .i64) 3 g.length).pull; have hp := hide (pad_len g.length to_); have hdef : Hid (hopsB g to_ most = hopsI g (pad g.length to_) (min most 256 + 1).toNat 0) := rfl; obtain ⟨p, hpd⟩ : ∃ p, pad g.length to_ = p := ⟨_, rfl⟩; rw [hpd] at H hp hdef; clear hpd; rw [← hopsI_zero g p] at H; (have hM : (min most 256 + 1).toNat ≤ 257 := by omega); obtain ⟨M, hMd⟩ : ∃ M, (min most 256 + 1).toNat = M := ⟨_, rfl⟩; have hMd := hide hMd; rw [hMd.out] at hM hdef; go_loopw [8, 9] (fun v8 v9 W => ∃ (n : Nat) (vs : List Cell), n ≤ M ∧ v9 = .int .i64 n ∧ Hid (vs.length = g.length) ∧ Mem w W [] (own raw 29 (.slice (some ⟨g7, 0, none⟩) g.length g.length) vs :: (rowsOf (int .i64) 3 vs (hopsI g p n 0) ++ [own bool 4 v8 (itB g n p)]))) (fun _ v9 _ => M - (intOf v9).toNat)
  case atStart => exact ⟨0, _, Nat.zero_le _, rfl, by simp [Hid], H⟩
  case round =>
    clear H; obtain ⟨n, vs, hn, rfl, hvs, H⟩ := hrel; by_cases hlt : n < M
    · have htest : (n : Int) ≤ min most 256 := by have := hMd.out; omega
      have hl := hide (itB_len g p hp.out n); have hnx : Hid (itB g (n + 1) p = stepB g (itB g n p)) := rfl; have hrow := hide (fun k (hb : (itB g n p)[k]? = some true) => hopRow_true g p k n hb); have hsame := hide (fun k (hk : k < g.length) (hb : (itB g n p)[k]? = some false) => hopsI_same g p n k hk hb); obtain ⟨now, hnow⟩ : ∃ now, itB g n p = now := ⟨_, rfl⟩; rw [hnow] at H hl hnx hrow hsame; clear hnow; obtain ⟨A8, c8, rfl, -, -⟩ := H.rd (List.mem_cons_of_mem _ (List.mem_append_right _ (.head _))); go_wp2; go_loopw [29] (fun v29 W => ∃ (j : Nat) (vs : List Cell), j ≤ now.length ∧ v29 = .int .i64 j ∧ Hid (vs.length = g.length) ∧ Mem w W [] (own raw 29 (.slice (some ⟨g7, 0, none⟩) g.length g.length) vs :: (rowsOf (int .i64) 3 vs (hopsI g p n j) ++ [own bool 4 (.slice A8 now.length c8) now]))) (fun v29 _ => now.length - (intOf v29).toNat)
      case atStart => exact ⟨0, vs, Nat.zero_le _, rfl, hvs, H⟩
      case round =>
        clear H hvs; obtain ⟨j, vs, hj, rfl, hvs, H⟩ := hrel; by_cases hjl : j < now.length
        · have hjg : j < g.length := by have := hl.out; omega
          obtain ⟨b, hb⟩ : ∃ b, now[j]? = some b := ⟨_, List.getElem?_eq_getElem hjl⟩; obtain ⟨-, -, hnr⟩ := H.rdx (List.mem_cons_of_mem _ (List.mem_append_right _ (.head _))); obtain ⟨ad8, cs, rfl, -, rfl, hx⟩ := hnr.at_ hb; have hx0 := hx 0 _ rfl; rw [show (Mq.bool).sz = 1 from rfl, Nat.mul_one, Nat.add_zero] at hx0; clear hx hnr; cases b
          · have hs := hsame.out j hjg hb
            have hs := hide hs; clear hb; go_wp2; go_roundw
            case rel => exact ⟨j + 1, vs, by omega, by go_num, hvs, by rw [← hs.out]; exact H⟩
            case measure => simp [intOf]; omega
          · have hrs := hide (hrow.out j hb)
            have hln := hopRow_len g p j n; have hget := hide (hopsI_get g p n j hjg); have hnext := hide (hopsI_next g p n j hjg); clear hb; obtain ⟨xs, hxs⟩ : ∃ xs, hopRow g p j n = xs := ⟨_, rfl⟩; rw [hxs] at hrs hln hget; clear hxs; obtain ⟨⟨v, hv1⟩, hv⟩ : ∃ v, vs[j]? = some v := ⟨_, List.getElem?_eq_getElem (by rw [hvs.out]; exact hjg)⟩; obtain ⟨l1, l2, e1, e2⟩ := rowsOf_split (int .i64) 3 (by rw [hvs.out, hopsI_len]) hv hget.out; have e2 := hide e2; have hvv := hide hv; rw [e1] at H; clear e1 hv; obtain ⟨A, c, rfl⟩ := H.one (d := int .i64) (e := 3) (v := v) (xs := xs) (by simp); obtain ⟨u, hu, hc0, hf0⟩ := H.cell1 (.head _) hvv.out; cases hu; rw [show ∀ (a b c : Asr) (l1 l2 : List Asr), a :: (l1 ++ b :: l2 ++ [c]) = (a :: l1) ++ b :: (l2 ++ [c]) from fun a b c l1 l2 => by simp] at H; have H := H.pull; go_wp2_with (first | ((with_reducible refine gate_dst (N := 43) rfl ?_); refine wp_append H rfl _ _ _ (.int .i64 0) 8 rfl Try.underlying29 info_int rfl (by decide) (by decide) (n : Int) [.int .i64 n] rfl rfl (fun _ _ => rfl) (by omega) ?_; clear H hc0 hf0; intro v1 W1 H; obtain ⟨A1', c1', rfl⟩ := H.one (.head _); obtain ⟨u, hu, hc1, hf1⟩ := H.cell1 (.tail _ (.head _)) hvv.out; clear hu)); have H := H.push (l1 := own raw 29 (.slice (some ⟨g7, 0, none⟩) g.length g.length) vs :: l1); rw [List.length_append, List.length_singleton] at H; have H := MemM.set1 (l := l1 ++ own (int .i64) 3 (.slice A1' (xs.length + 1) c1') (xs ++ [(n : Int)]) :: (l2 ++ [own bool 4 (.slice (some ad8) now.length c8) now])) H (i := j) (by rw [hvs.out]; exact hjg) (x' := slCell A1' (xs.length + 1) c1') (u := .slice A1' (xs.length + 1) c1') (fun _ _ => rfl); rw [← hrs.out, show ∀ (b c : Asr) (l1 l2 : List Asr), l1 ++ b :: (l2 ++ [c]) = l1 ++ b :: l2 ++ [c] from fun b c l1 l2 => by simp] at H; have e3 := e2.out (slCell A1' (xs.length + 1) c1') (hopRow g p j (n + 1)); rw [hnext.out] at e3; go_roundw
            case rel => exact ⟨j + 1, vs.set j (slCell A1' (xs.length + 1) c1'), by omega, by go_num, by rw [Hid, List.length_set]; exact hvs, by rw [e3]; exact H⟩
            case measure => simp [intOf]; omega
        · obtain rfl : j = now.length := by omega
          rw [hl.out, hopsI_all] at H; obtain ⟨-, -, hb⟩ := H.rdx (List.mem_cons_of_mem _ (List.mem_append_right _ (.head _))); go_wp2_with (go_at_call 29; refine (step_calls' rfl (H.arg hg) hb (by omega)).mono ?_; rintro e W1 ⟨v, rfl, hm⟩; have H := (H.call hm).swapLast; clear hm hb; rw [← hnx.out] at H); go_roundw
          case rel => exact ⟨n + 1, vs, by omega, by go_num, hvs, H⟩
          case measure => simp [intOf]; omega
    · obtain rfl : n = M := by omega
      (have htest : ¬ (n : Int) ≤ min most 256 := by have := hMd.out; omega); rw [← hdef.out] at H; go_wp2; go_ret; exact ⟨_, rfl, (MemM.nest (d := int .i64) (by decide) (by rw [hvs.out, hdef.out, hopsI_len]) H).pull1.drop⟩
end Go.Proofs.Ytcagkdgpoijkoaa.Fw
end
section
namespace Go.Proofs.Ytcagkdgpoijkoaa.PLm
open Go.RowKit Go.Proofs.Ytcagkdgpoijkoaa.Short Go.Proofs.YtcagkdgpoijkoaaW.PrintWords Go.Proofs.YtcagkdgpoijkoaaW.PrintLast Go.Proofs.YtcagkdgpoijkoaaW.PrintMore
attribute [local go_sem] max2_int min2_int max_two min_two max_three min_three max_four min_four
set_option linter.unusedVariables false
set_option linter.unusedSimpArgs false
def forward_Reach.f (l0 : List (List Int)) (l1 : List Bool) : Option (List Bool) := if l0.length ≤ 1000000000 then some (Go.Proofs.Ytcagkdgpoijkoaa.FwP.reachB l0 l1) else none
theorem forward_Reach.calls (A0 : Option Addr) (c0 : Nat) (l0 : List (List Int)) (A1 : Option Addr) (c1 : Nat) (l1 : List Bool) (r : List Bool) (w : World) (hr0 : Kd.C (Kd.slice 3 (Kd.int .i64)) w A0 l0.length l0) (hc0 : l0.length ≤ c0) (hr1 : Kd.C Kd.bool w A1 l1.length l1) (hc1 : l1.length ≤ c1) (h : forward_Reach.f l0 l1 = some r) :
  Calls Try.prog 15 #[.slice A0 l0.length c0, .slice A1 l1.length c1] w fun e w' => ∃ v0_ : Value, e = .returned (v0_) ∧ Kd.R Kd.bool 4 w' w.heap.size (fun _ => True) v0_ r ∧ Below w.heap.size w w' := by
 unfold forward_Reach.f at h; split at h
 ·rename_i hl
  have h := Option.some.inj h; refine (Go.Proofs.Ytcagkdgpoijkoaa.Fw.reach_calls (Go.Proofs.Ytcagkdgpoijkoaa.Bridge.rows_int hr0) (Go.Proofs.Ytcagkdgpoijkoaa.Bridge.row_bool hr1) (by omega)).mono ?_; rintro e w' ⟨v, rfl, H⟩; have hR := Go.Proofs.Ytcagkdgpoijkoaa.Bridge.R_of_own (d := Kd.bool) (fun x : Bool => x) rfl (fun w S y cs hk W b ok => hk) H; rw [h, List.map_id'] at hR; exact ⟨v, rfl, hR, H.below⟩
 ·cases h
def forward_Loops.f (l0 : List (List Int)) : Option (List Bool) := if l0.length ≤ 1000000000 then some (Go.Proofs.Ytcagkdgpoijkoaa.FwP.loopsB l0) else none
theorem forward_Loops.calls (A0 : Option Addr) (c0 : Nat) (l0 : List (List Int)) (r : List Bool) (w : World) (hr0 : Kd.C (Kd.slice 3 (Kd.int .i64)) w A0 l0.length l0) (hc0 : l0.length ≤ c0) (h : forward_Loops.f l0 = some r) :
  Calls Try.prog 16 #[.slice A0 l0.length c0] w fun e w' => ∃ v0_ : Value, e = .returned (v0_) ∧ Kd.R Kd.bool 4 w' w.heap.size (fun _ => True) v0_ r ∧ Below w.heap.size w w' := by
 unfold forward_Loops.f at h; split at h
 ·rename_i hl
  have h := Option.some.inj h; refine (Go.Proofs.Ytcagkdgpoijkoaa.Fw.loops_calls (Go.Proofs.Ytcagkdgpoijkoaa.Bridge.rows_int hr0) (by omega)).mono ?_; rintro e w' ⟨v, rfl, H⟩; have hR := Go.Proofs.Ytcagkdgpoijkoaa.Bridge.R_of_own (d := Kd.bool) (fun x : Bool => x) rfl (fun w S y cs hk W b ok => hk) H; rw [h, List.map_id'] at hR; exact ⟨v, rfl, hR, H.below⟩
 ·cases h
def forward_Hops.f (l0 : List (List Int)) (l1 : List Bool) (a2 : Int) : Option (List (List Int)) := if l0.length ≤ 1000000000 then some (Go.Proofs.Ytcagkdgpoijkoaa.FwP.hopsB l0 l1 a2) else none
theorem forward_Hops.calls (A0 : Option Addr) (c0 : Nat) (l0 : List (List Int)) (A1 : Option Addr) (c1 : Nat) (l1 : List Bool) (a2 : Int) (r : List (List Int)) (w : World) (hr0 : Kd.C (Kd.slice 3 (Kd.int .i64)) w A0 l0.length l0) (hc0 : l0.length ≤ c0) (hr1 : Kd.C Kd.bool w A1 l1.length l1) (hc1 : l1.length ≤ c1) (h : forward_Hops.f l0 l1 a2 = some r) :
  Calls Try.prog 19 #[.slice A0 l0.length c0, .slice A1 l1.length c1, .int .i64 a2] w fun e w' => ∃ v0_ : Value, e = .returned (v0_) ∧ Kd.V (Kd.slice 3 (Kd.int .i64)) 29 w' w.heap.size (fun k_ => (w.heap.size ≤ k_)) v0_ r ∧ Below w.heap.size w w' := by
 unfold forward_Hops.f at h; split at h
 ·rename_i hl
  have h := Option.some.inj h; refine (Go.Proofs.Ytcagkdgpoijkoaa.Fw.hops_calls (Go.Proofs.Ytcagkdgpoijkoaa.Bridge.rows_int hr0) (Go.Proofs.Ytcagkdgpoijkoaa.Bridge.row_bool hr1) hl).mono ?_; rintro e w' ⟨v, rfl, H⟩; have hV := Go.Proofs.Ytcagkdgpoijkoaa.Bridge.V_of_own (d := Kd.slice 3 (Kd.int .i64)) (fun x : List Int => x) 29 w.heap.size rfl (show 0 < 1 by decide) (fun w S y cs hk => by simpa using Go.Proofs.Ytcagkdgpoijkoaa.Bridge.K_slice_back (d := Kd.int .i64) (r := Go.Proofs.Ytcagkdgpoijkoaa.Mq.int .i64) (fun x : Int => x) rfl (fun y cs hk => hk) y cs hk) H; rw [h, List.map_id'] at hV; exact ⟨v, rfl, hV, H.below⟩
 ·cases h
end Go.Proofs.Ytcagkdgpoijkoaa.PLm
end
