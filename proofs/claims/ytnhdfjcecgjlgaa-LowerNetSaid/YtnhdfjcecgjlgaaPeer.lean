/- Walks: check.Peer, lower.static. -/
import Derived.Test.YtnhdfjcecgjlgaaLow
namespace Go.Proofs.Ytnhdfjcecgjlgaa.Low
open Go.RowKit Go.Proofs.Ytnhdfjcecgjlgaa.Mq Go.Proofs.Ytnhdfjcecgjlgaa.Pfx Go.Proofs.Ytnhdfjcecgjlgaa.Cls
set_option linter.unusedVariables false
set_option linter.unusedSimpArgs false
attribute [local go_sem] bs_list
def lk0 : Lk := ⟨[], 0, [], [], 0⟩
def peerB (ls : List Lk) (name : Str) : Option Lk := ls.find? (fun l => l.peer == name)
theorem info_lk : (Try.prog.info? 47).map (·.zero) = some (some (.agg #[.string ByteArray.empty, .int .i64 0, .string ByteArray.empty, .string ByteArray.empty, .int .i64 0])) := by kernel_rfl
theorem info_wy : (Try.prog.info? 63).map (·.zero) = some (some (.agg #[.int .u32 0, .int .i64 0, .string ByteArray.empty, .int .i64 0])) := by kernel_rfl
set_option maxHeartbeats 4000000 in
set_option maxRecDepth 100000 in
theorem peer_calls {w : World} {A2 : Option Addr} {ls : List Lk} {n2 : Nat} (h : Row lkR w (· < w.heap.size) A2 ls) (v0 v1 v3 v4 : Value) (name : Str) :
    Calls Try.prog 20 #[.agg #[v0, v1, .slice A2 ls.length n2, v3, v4], .string (bs name)] w fun e W => e = .returned (.tuple #[.agg ((peerB ls name).getD lk0).enc.toArray, .bool (peerB ls name).isSome]) ∧ Mem w W [] [] := by
  have H := (MemM.start w).box 51 [v0, v1, .slice A2 ls.length n2, v3, v4]; have hl := h.len; unfold maxLen at hl; go_enter Try.func20, Try.ntmps20; go_wp2_with fail; have H := H.box 47 [.string (bs []), .int .i64 0, .string (bs []), .string (bs []), .int .i64 0]; (have e1 : (w.alloc (.cells #[v0, v1, .slice A2 ls.length n2, v3, v4] 51)).heap.size = w.heap.size + 1 := by simp); rw [e1] at H; obtain ⟨W, hW⟩ : ∃ W, (w.alloc (.cells #[v0, v1, .slice A2 ls.length n2, v3, v4] 51)).alloc (.cells [.string (bs []), .int .i64 0, .string (bs []), .string (bs []), .int .i64 0].toArray 47) = W := ⟨_, rfl⟩; rw [hW] at H; change Code.wp _ _ _ _ ((w.alloc (.cells #[v0, v1, .slice A2 ls.length n2, v3, v4] 51)).alloc (.cells [.string (bs []), .int .i64 0, .string (bs []), .string (bs []), .int .i64 0].toArray 47)); rw [hW]; clear hW e1; generalize w.heap.size = g at H ⊢; go_loopw [11] (fun v11 W => ∃ k : Nat, k ≤ ls.length ∧ v11 = .int .i64 k ∧ Hid (peerB ls name = peerB (ls.drop k) name) ∧ Mem w W [] [box (g + 1) 47 [.string (bs []), .int .i64 0, .string (bs []), .string (bs []), .int .i64 0], box g 51 [v0, v1, .slice A2 ls.length n2, v3, v4]]) (fun v11 _ => ls.length - (intOf v11).toNat)
  case atStart => exact ⟨0, Nat.zero_le _, rfl, rfl, H⟩
  case round =>
    clear H; obtain ⟨k, hk, rfl, hacc, H⟩ := hrel; by_cases hlt : k < ls.length
    · obtain ⟨l, hl⟩ : ∃ l, ls[k]? = some l := ⟨_, List.getElem?_eq_getElem hlt⟩
      (have hd : ls.drop k = l :: ls.drop (k + 1) := by rw [List.drop_eq_getElem_cons hlt]; congr 1; rw [List.getElem?_eq_getElem hlt] at hl; injection hl); rw [hd] at hacc; clear hd; obtain ⟨ad, rfl, hx⟩ := h.flat1 hl; have hx := hide (oldcells H hx); obtain ⟨peer, cost, imp, exp, at1⟩ := l; by_cases hn : peer = name
      · subst hn
        have hfin : Hid (peerB ls peer = some ⟨peer, cost, imp, exp, at1⟩) := by rw [Hid, hacc.out]; simp [peerB]
        go_wp2_with (first
          | ((with_reducible refine gate_dst (N := 14) rfl ?_); refine wp_ldcells [.string (bs peer), .int .i64 cost, .string (bs imp), .string (bs exp), .int .i64 at1] hx.out rfl _ _ rfl rfl _ Try.underlying47 rfl (by kernel_rfl) ?_)
          | ((with_reducible refine gate_dst (N := 7) rfl ?_); refine wp_alloc H rfl _ rfl _ info_lk _ rfl ?_; clear H hx; intro gc W1 H)
          | (refine wp_stbox H rfl _ _ _ rfl 0 rfl _ rfl _ rfl (by kernel_rfl) rfl (Nat.le_of_ble_eq_true rfl) [.string (bs peer), .int .i64 cost, .string (bs imp), .string (bs exp), .int .i64 at1] rfl ?_; clear H; intro W2 H; have x0 := (H.boxcell (.head _) 0 _ rfl).1; have x1 := (H.boxcell (.head _) 1 _ rfl).1; have x2 := (H.boxcell (.head _) 2 _ rfl).1; have x3 := (H.boxcell (.head _) 3 _ rfl).1; have x4 := (H.boxcell (.head _) 4 _ rfl).1)
          | (refine wp_stbox H.pull1 rfl _ _ _ rfl 0 rfl _ rfl _ rfl (by kernel_rfl) rfl (Nat.le_of_ble_eq_true rfl) [.string (bs peer), .int .i64 cost, .string (bs imp), .string (bs exp), .int .i64 at1] rfl ?_; clear H x0 x1 x2 x3 x4; intro W3 H; have x0 := (H.boxcell (.head _) 0 _ rfl).1; have x1 := (H.boxcell (.head _) 1 _ rfl).1; have x2 := (H.boxcell (.head _) 2 _ rfl).1; have x3 := (H.boxcell (.head _) 3 _ rfl).1; have x4 := (H.boxcell (.head _) 4 _ rfl).1))
        exact bodyPost_ret (v := .tuple #[.agg #[.string (bs peer), .int .i64 cost, .string (bs imp), .string (bs exp), .int .i64 at1], .bool true]) (by simp [results, Try.results20, go_sem, x0, x1, x2, x3, x4]) rfl ⟨by rw [hfin.out]; rfl, H.drop.drop.drop⟩
      · have hnx : Hid (peerB ls name = peerB (ls.drop (k + 1)) name) := by rw [Hid, hacc.out]; simp [peerB, hn]
        have hb1 : (peer == name) = false := by simpa using hn
        go_wp2_with (first
          | ((with_reducible refine gate_dst (N := 14) rfl ?_); refine wp_ldcells [.string (bs peer), .int .i64 cost, .string (bs imp), .string (bs exp), .int .i64 at1] hx.out rfl _ _ rfl rfl _ Try.underlying47 rfl (by kernel_rfl) ?_)
          | ((with_reducible refine gate_dst (N := 7) rfl ?_); refine wp_alloc H rfl _ rfl _ info_lk _ rfl ?_; clear H hx; intro gc W1 H)
          | (refine wp_stbox H rfl _ _ _ rfl 0 rfl _ rfl _ rfl (by kernel_rfl) rfl (Nat.le_of_ble_eq_true rfl) [.string (bs peer), .int .i64 cost, .string (bs imp), .string (bs exp), .int .i64 at1] rfl ?_; clear H; intro W2 H; have x0 := (H.boxcell (.head _) 0 _ rfl).1; have x1 := (H.boxcell (.head _) 1 _ rfl).1; have x2 := (H.boxcell (.head _) 2 _ rfl).1; have x3 := (H.boxcell (.head _) 3 _ rfl).1; have x4 := (H.boxcell (.head _) 4 _ rfl).1))
        go_roundw
        case rel => exact ⟨k + 1, by omega, by go_num, hnx, H.drop⟩
        case measure => simp [intOf]; omega
    · obtain rfl : k = ls.length := by omega
      have hfin : Hid (peerB ls name = none) := by rw [Hid, hacc.out, List.drop_length]; rfl
      go_wp2_with (first
        | (refine wp_stbox H rfl _ _ _ rfl 0 rfl _ rfl _ rfl (by kernel_rfl) rfl (Nat.le_of_ble_eq_true rfl) [.string (bs []), .int .i64 0, .string (bs []), .string (bs []), .int .i64 0] rfl ?_; clear H; intro W2 H; have x0 := (H.boxcell (.head _) 0 _ rfl).1; have x1 := (H.boxcell (.head _) 1 _ rfl).1; have x2 := (H.boxcell (.head _) 2 _ rfl).1; have x3 := (H.boxcell (.head _) 3 _ rfl).1; have x4 := (H.boxcell (.head _) 4 _ rfl).1))
      exact bodyPost_ret (v := .tuple #[.agg #[.string (bs []), .int .i64 0, .string (bs []), .string (bs []), .int .i64 0], .bool false]) (by simp [results, Try.results20, go_sem, x0, x1, x2, x3, x4]) rfl ⟨by rw [hfin.out]; rfl, H.drop.drop⟩
def staticS (to_ : Pf) (s : Str × Int) (w : Wy) : Str × Int := if coversB w.pre to_ && decide (s.2 < w.pre.bits) then (w.via, w.pre.bits) else s
def staticB (to_ : Pf) (ws : List Wy) : Str × Int := ws.foldl (staticS to_) ([], -1)
theorem take_foldl {α β : Type} (f : β → α → β) (b : β) (l : List α) (k : Nat) (x : α) (hx : l[k]? = some x) : (l.take (k + 1)).foldl f b = f ((l.take k).foldl f b) x := by
  obtain ⟨hj, rfl⟩ := List.getElem?_eq_some_iff.1 hx; rw [List.take_succ_eq_append_getElem hj, List.foldl_append]; rfl
set_option maxHeartbeats 4000000 in
set_option maxRecDepth 100000 in
theorem static_calls {w : World} {A3 : Option Addr} {ws : List Wy} {n3 : Nat} (h : Row wyR w (· < w.heap.size) A3 ws) (v0 v1 v2 v4 : Value) (a b : Int) :
    Calls Try.prog 19 #[.agg #[v0, v1, v2, .slice A3 ws.length n3, v4], .agg #[.int .u32 a, .int .i64 b]] w fun e W => e = .returned (.tuple #[.string (bs (staticB ⟨a, b⟩ ws).1), .bool (decide (0 ≤ (staticB ⟨a, b⟩ ws).2))]) ∧ Mem w W [] [] := by
  have H := ((MemM.start w).box 51 [v0, v1, v2, .slice A3 ws.length n3, v4]).box 36 [.int .u32 a, .int .i64 b]; have hl := h.len; unfold maxLen at hl; go_enter Try.func19, Try.ntmps19; go_wp2_with fail; (have e1 : (w.alloc (.cells #[v0, v1, v2, .slice A3 ws.length n3, v4] 51)).heap.size = w.heap.size + 1 := by simp); rw [e1] at H; generalize w.heap.size = g at H ⊢; generalize (w.alloc (.cells #[v0, v1, v2, .slice A3 ws.length n3, v4] 51)).alloc (.cells #[.int .u32 a, .int .i64 b] 36) = W at H ⊢; go_loopw [6, 7, 13] (fun v6 v7 v13 W => ∃ k : Nat, k ≤ ws.length ∧ v13 = .int .i64 k ∧ v6 = .string (bs ((ws.take k).foldl (staticS ⟨a, b⟩) ([], -1)).1) ∧ v7 = .int .i64 ((ws.take k).foldl (staticS ⟨a, b⟩) ([], -1)).2 ∧ Mem w W [] [box (g + 1) 36 [.int .u32 a, .int .i64 b], box g 51 [v0, v1, v2, .slice A3 ws.length n3, v4]]) (fun _ _ v13 _ => ws.length - (intOf v13).toNat)
  case atStart => exact ⟨0, Nat.zero_le _, rfl, rfl, rfl, H⟩
  case round =>
    clear H; obtain ⟨k, hk, rfl, rfl, rfl, H⟩ := hrel; by_cases hlt : k < ws.length
    · obtain ⟨l, hl⟩ : ∃ l, ws[k]? = some l := ⟨_, List.getElem?_eq_getElem hlt⟩
      have hst := hide (take_foldl (staticS ⟨a, b⟩) ([], -1) ws k l hl); obtain ⟨ad, rfl, hx⟩ := h.flat1 hl; have hx := hide (oldcells H hx); generalize (ws.take k).foldl (staticS ⟨a, b⟩) ([], -1) = s at hst ⊢; obtain ⟨⟨pa, pb⟩, via, at1⟩ := l; obtain ⟨sv, sb⟩ := s; (have hcov : Hid (∀ W, Calls Try.prog 23 #[.agg #[.int .u32 pa, .int .i64 pb], .agg #[.int .u32 a, .int .i64 b]] W fun e W' => e = .returned (.bool (coversB ⟨pa, pb⟩ ⟨a, b⟩)) ∧ Mem W W' [] []) := fun W => covers_calls pa pb a b); have hst := hide (show (ws.take (k + 1)).foldl (staticS ⟨a, b⟩) ([], -1) = if coversB ⟨pa, pb⟩ ⟨a, b⟩ && decide (sb < pb) then (via, pb) else (sv, sb) from hst.out); generalize coversB ⟨pa, pb⟩ ⟨a, b⟩ = m at hcov hst; simp only; cases m
      · have hst := hide (show (ws.take (k + 1)).foldl (staticS ⟨a, b⟩) ([], -1) = (sv, sb) from hst.out)
        go_wp2_with (first
          | ((with_reducible refine gate_dst (N := 16) rfl ?_); refine wp_ldcells [.int .u32 pa, .int .i64 pb, .string (bs via), .int .i64 at1] hx.out rfl _ _ rfl rfl _ Try.underlying63 rfl (by kernel_rfl) ?_)
          | ((with_reducible refine gate_dst (N := 9) rfl ?_); refine wp_alloc H rfl _ rfl _ info_wy _ rfl ?_; clear H hx; intro gc W1 H)
          | (refine wp_stbox H rfl _ _ _ rfl 0 rfl _ rfl _ rfl (by kernel_rfl) rfl (Nat.le_of_ble_eq_true rfl) [.int .u32 pa, .int .i64 pb, .string (bs via), .int .i64 at1] rfl ?_; clear H; intro W2 H; have x0 := (H.boxcell (.head _) 0 _ rfl).1; have x1 := (H.boxcell (.head _) 1 _ rfl).1; have x2 := (H.boxcell (.head _) 2 _ rfl).1; have x3 := (H.boxcell (.head _) 3 _ rfl).1; have y0 := (H.boxcell (.tail _ (.head _)) 0 _ rfl).1; have y1 := (H.boxcell (.tail _ (.head _)) 1 _ rfl).1)
          | (go_at_call 23; refine (hcov.out _).mono ?_; rintro e W5 ⟨rfl, hm⟩; replace H := H.call hm; clear hm x0 x1 x2 x3 y0 y1; have x0 := (H.boxcell (.head _) 0 _ rfl).1; have x1 := (H.boxcell (.head _) 1 _ rfl).1; have x2 := (H.boxcell (.head _) 2 _ rfl).1; have x3 := (H.boxcell (.head _) 3 _ rfl).1; have y0 := (H.boxcell (.tail _ (.head _)) 0 _ rfl).1; have y1 := (H.boxcell (.tail _ (.head _)) 1 _ rfl).1))
        go_roundw
        case rel => exact ⟨k + 1, by omega, by go_num, by rw [hst.out], by rw [hst.out], H.drop⟩
        case measure => simp [intOf]; omega
      · by_cases hlt2 : sb < pb
        · have hst := hide (show (ws.take (k + 1)).foldl (staticS ⟨a, b⟩) ([], -1) = (via, pb) from by rw [hst.out]; simp [hlt2])
          go_wp2_with (first
          | ((with_reducible refine gate_dst (N := 16) rfl ?_); refine wp_ldcells [.int .u32 pa, .int .i64 pb, .string (bs via), .int .i64 at1] hx.out rfl _ _ rfl rfl _ Try.underlying63 rfl (by kernel_rfl) ?_)
          | ((with_reducible refine gate_dst (N := 9) rfl ?_); refine wp_alloc H rfl _ rfl _ info_wy _ rfl ?_; clear H hx; intro gc W1 H)
          | (refine wp_stbox H rfl _ _ _ rfl 0 rfl _ rfl _ rfl (by kernel_rfl) rfl (Nat.le_of_ble_eq_true rfl) [.int .u32 pa, .int .i64 pb, .string (bs via), .int .i64 at1] rfl ?_; clear H; intro W2 H; have x0 := (H.boxcell (.head _) 0 _ rfl).1; have x1 := (H.boxcell (.head _) 1 _ rfl).1; have x2 := (H.boxcell (.head _) 2 _ rfl).1; have x3 := (H.boxcell (.head _) 3 _ rfl).1; have y0 := (H.boxcell (.tail _ (.head _)) 0 _ rfl).1; have y1 := (H.boxcell (.tail _ (.head _)) 1 _ rfl).1)
          | (go_at_call 23; refine (hcov.out _).mono ?_; rintro e W5 ⟨rfl, hm⟩; replace H := H.call hm; clear hm x0 x1 x2 x3 y0 y1; have x0 := (H.boxcell (.head _) 0 _ rfl).1; have x1 := (H.boxcell (.head _) 1 _ rfl).1; have x2 := (H.boxcell (.head _) 2 _ rfl).1; have x3 := (H.boxcell (.head _) 3 _ rfl).1; have y0 := (H.boxcell (.tail _ (.head _)) 0 _ rfl).1; have y1 := (H.boxcell (.tail _ (.head _)) 1 _ rfl).1))
          go_quiet (fail); go_wp2; go_roundw
          case rel => exact ⟨k + 1, by omega, by go_num, by rw [hst.out], by rw [hst.out], (H.drewN _).drop⟩
          case measure => simp [intOf]; omega
        · have hst := hide (show (ws.take (k + 1)).foldl (staticS ⟨a, b⟩) ([], -1) = (sv, sb) from by rw [hst.out]; simp [hlt2])
          go_wp2_with (first
          | ((with_reducible refine gate_dst (N := 16) rfl ?_); refine wp_ldcells [.int .u32 pa, .int .i64 pb, .string (bs via), .int .i64 at1] hx.out rfl _ _ rfl rfl _ Try.underlying63 rfl (by kernel_rfl) ?_)
          | ((with_reducible refine gate_dst (N := 9) rfl ?_); refine wp_alloc H rfl _ rfl _ info_wy _ rfl ?_; clear H hx; intro gc W1 H)
          | (refine wp_stbox H rfl _ _ _ rfl 0 rfl _ rfl _ rfl (by kernel_rfl) rfl (Nat.le_of_ble_eq_true rfl) [.int .u32 pa, .int .i64 pb, .string (bs via), .int .i64 at1] rfl ?_; clear H; intro W2 H; have x0 := (H.boxcell (.head _) 0 _ rfl).1; have x1 := (H.boxcell (.head _) 1 _ rfl).1; have x2 := (H.boxcell (.head _) 2 _ rfl).1; have x3 := (H.boxcell (.head _) 3 _ rfl).1; have y0 := (H.boxcell (.tail _ (.head _)) 0 _ rfl).1; have y1 := (H.boxcell (.tail _ (.head _)) 1 _ rfl).1)
          | (go_at_call 23; refine (hcov.out _).mono ?_; rintro e W5 ⟨rfl, hm⟩; replace H := H.call hm; clear hm x0 x1 x2 x3 y0 y1; have x0 := (H.boxcell (.head _) 0 _ rfl).1; have x1 := (H.boxcell (.head _) 1 _ rfl).1; have x2 := (H.boxcell (.head _) 2 _ rfl).1; have x3 := (H.boxcell (.head _) 3 _ rfl).1; have y0 := (H.boxcell (.tail _ (.head _)) 0 _ rfl).1; have y1 := (H.boxcell (.tail _ (.head _)) 1 _ rfl).1))
          go_roundw
          case rel => exact ⟨k + 1, by omega, by go_num, by rw [hst.out], by rw [hst.out], H.drop⟩
          case measure => simp [intOf]; omega
    · obtain rfl : k = ws.length := by omega
      rw [List.take_length]; have hfin : Hid (staticB ⟨a, b⟩ ws = ws.foldl (staticS ⟨a, b⟩) ([], -1)) := rfl; generalize ws.foldl (staticS ⟨a, b⟩) ([], -1) = s at hfin ⊢; obtain ⟨sv, sb⟩ := s; simp only; go_wp2; go_ret2; exact ⟨by rw [hfin.out]; rfl, H.drop.drop⟩
end Go.Proofs.Ytnhdfjcecgjlgaa.Low
