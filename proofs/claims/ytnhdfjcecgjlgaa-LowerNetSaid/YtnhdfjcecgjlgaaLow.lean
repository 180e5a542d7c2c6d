/- Walks: package lower. -/
import Derived.Test.YtnhdfjcecgjlgaaCl
namespace Go.Proofs.Ytnhdfjcecgjlgaa.Low
open Go.RowKit Go.Proofs.Ytnhdfjcecgjlgaa.Mq Go.Proofs.Ytnhdfjcecgjlgaa.Pfx Go.Proofs.Ytnhdfjcecgjlgaa.Cls
set_option linter.unusedVariables false
set_option linter.unusedSimpArgs false
theorem oldcells {w W : World} {R l : List Asr} (H : Mem w W R l) {cs : List Value} {f : Nat → Addr} (h : ∀ (j : Nat) u, cs[j]? = some u → w.cell? (f j) = some u) : ∀ (j : Nat) u, cs[j]? = some u → W.cell? (f j) = some u :=
  fun j u hu => by rw [(MemM.below H).cell (block_lt_of_cell (h j u hu))]; exact h j u hu
theorem bs_list (a : Str) : (bs a).toList = a := by rw [ByteArray.toList_eq]; simp [bs]
attribute [local go_sem] bs_list
def clausesB (ms : List Mp) (name : Str) (to_ : Pf) : List Cl :=
  match ms.find? (fun m => m.name == name) with
  | some m => forB to_ m.clauses
  | none => []
theorem info_mp : (Try.prog.info? 59).map (·.zero) = some (some (.agg #[.string ByteArray.empty, .slice none 0 0, .int .i64 0])) := by kernel_rfl
set_option maxHeartbeats 4000000 in
set_option maxRecDepth 100000 in
theorem clauses_calls {w : World} {A0 : Option Addr} {ms : List Mp} {c0 : Nat} (h : Row mpR w (· < w.heap.size) A0 ms) (hcl : ∀ m ∈ ms, m.clauses.length ≤ 2000000000000) (rs : Value) (hrs : rs.oneCell' = true) (name : Str) (a b : Int) :
    Calls Try.prog 21 #[.agg #[.slice A0 ms.length c0, rs], .string (bs name), .agg #[.int .u32 a, .int .i64 b]] w fun e W => ∃ v, e = .returned v ∧ Mem w W [] [own clR 81 v (clausesB ms name ⟨a, b⟩)] := by
  have H := ((MemM.start w).box 30 [.slice A0 ms.length c0, rs]).box 36 [.int .u32 a, .int .i64 b]; have hl := h.len; unfold maxLen at hl; go_enter Try.func21, Try.ntmps21; go_wp2_with fail; (have e1 : (w.alloc (.cells #[.slice A0 ms.length c0, rs] 30)).heap.size = w.heap.size + 1 := by simp); rw [e1] at H; generalize w.heap.size = g at H ⊢; generalize (w.alloc (.cells #[.slice A0 ms.length c0, rs] 30)).alloc (.cells #[.int .u32 a, .int .i64 b] 36) = W at H ⊢; go_loopw [12] (fun v12 W => ∃ k : Nat, k ≤ ms.length ∧ v12 = .int .i64 k ∧ Hid (clausesB ms name ⟨a, b⟩ = clausesB (ms.drop k) name ⟨a, b⟩) ∧ Mem w W [] [box (g + 1) 36 [.int .u32 a, .int .i64 b], box g 30 [.slice A0 ms.length c0, rs]]) (fun v12 _ => ms.length - (intOf v12).toNat)
  case atStart => exact ⟨0, Nat.zero_le _, rfl, rfl, H⟩
  case round =>
    clear H; obtain ⟨k, hk, rfl, hacc, H⟩ := hrel; by_cases hlt : k < ms.length
    · obtain ⟨m, hm⟩ : ∃ m, ms[k]? = some m := ⟨_, List.getElem?_eq_getElem hlt⟩
      (have hd : ms.drop k = m :: ms.drop (k + 1) := by rw [List.drop_eq_getElem_cons hlt]; congr 1; rw [List.getElem?_eq_getElem hlt] at hm; injection hm); rw [hd] at hacc; clear hd; have hmc := hcl m (List.mem_of_getElem? hm); obtain ⟨ad, A1, n, rfl, hx, hrow⟩ := h.mp1 hm; have hx := hide (oldcells H hx); by_cases hn : m.name = name
      · have hfin : Hid (clausesB ms name ⟨a, b⟩ = forB ⟨a, b⟩ m.clauses) := by rw [Hid, hacc.out]; simp [clausesB, hn]
        go_wp2_with (first
          | ((with_reducible refine gate_dst (N := 15) rfl ?_); refine wp_ldcells [.string (bs m.name), .slice A1 m.clauses.length n, .int .i64 m.at_] hx.out rfl _ _ rfl rfl _ Try.underlying59 rfl (by kernel_rfl) ?_)
          | ((with_reducible refine gate_dst (N := 8) rfl ?_); refine wp_alloc H rfl _ rfl _ info_mp _ rfl ?_; clear H hx; intro gc W1 H)
          | (refine wp_stbox H rfl _ _ _ rfl 0 rfl _ rfl _ rfl (by kernel_rfl) rfl (Nat.le_of_ble_eq_true rfl) [.string (bs m.name), .slice A1 m.clauses.length n, .int .i64 m.at_] rfl ?_; clear H; intro W2 H; have x0 := (H.boxcell (.head _) 0 _ rfl).1; have x1 := (H.boxcell (.head _) 1 _ rfl).1; have x2 := (H.boxcell (.head _) 2 _ rfl).1; have y0 := (H.boxcell (.tail _ (.head _)) 0 _ rfl).1; have y1 := (H.boxcell (.tail _ (.head _)) 1 _ rfl).1)
          | (go_at_call 30; refine (for_calls (H.arg hrow) hmc a b).mono ?_; rintro e W3 ⟨v, rfl, hm⟩; replace H := H.call hm))
        go_ret; exact ⟨_, rfl, by rw [hfin.out]; exact H.pull1.drop.pull1.drop.pull1.drop⟩
      · have hnx : Hid (clausesB ms name ⟨a, b⟩ = clausesB (ms.drop (k + 1)) name ⟨a, b⟩) := by rw [Hid, hacc.out]; simp [clausesB, hn]
        have hb1 : (m.name == name) = false := by simpa using hn
        go_wp2_with (first
          | ((with_reducible refine gate_dst (N := 15) rfl ?_); refine wp_ldcells [.string (bs m.name), .slice A1 m.clauses.length n, .int .i64 m.at_] hx.out rfl _ _ rfl rfl _ Try.underlying59 rfl (by kernel_rfl) ?_)
          | ((with_reducible refine gate_dst (N := 8) rfl ?_); refine wp_alloc H rfl _ rfl _ info_mp _ rfl ?_; clear H hx; intro gc W1 H)
          | (refine wp_stbox H rfl _ _ _ rfl 0 rfl _ rfl _ rfl (by kernel_rfl) rfl (Nat.le_of_ble_eq_true rfl) [.string (bs m.name), .slice A1 m.clauses.length n, .int .i64 m.at_] rfl ?_; clear H; intro W2 H; have x0 := (H.boxcell (.head _) 0 _ rfl).1; have x1 := (H.boxcell (.head _) 1 _ rfl).1; have x2 := (H.boxcell (.head _) 2 _ rfl).1; have y0 := (H.boxcell (.tail _ (.head _)) 0 _ rfl).1; have y1 := (H.boxcell (.tail _ (.head _)) 1 _ rfl).1))
        go_roundw
        case rel => exact ⟨k + 1, by omega, by go_num, hnx, H.drop⟩
        case measure => simp [intOf]; omega
    · obtain rfl : k = ms.length := by omega
      (have hfin : Hid (clausesB ms name ⟨a, b⟩ = []) := by rw [Hid, hacc.out, List.drop_length]; rfl); go_wp2; go_ret; exact ⟨_, rfl, by rw [hfin.out]; exact (H.drop.drop).nilItem _ _⟩
end Go.Proofs.Ytnhdfjcecgjlgaa.Low
