/- Walks: lower.Classes. -/
import Derived.Test.YtnhdfjcecgjlgaaSortP
import Derived.Test.YtnhdfjcecgjlgaaNet2
namespace Go.Proofs.Ytnhdfjcecgjlgaa.Low
open Go.RowKit Go.Proofs.Ytnhdfjcecgjlgaa.Mq Go.Proofs.Ytnhdfjcecgjlgaa.Pfx Go.Proofs.Ytnhdfjcecgjlgaa.Cls Go.Proofs.Ytnhdfjcecgjlgaa.Map
set_option linter.unusedVariables false
set_option linter.unusedSimpArgs false
def addB (acc : List Pf) (p : Pf) : List Pf := if 0 ≤ indexB acc p then acc else acc ++ [p]
def netsB (rs : List Rt) : List Pf := rs.foldl (fun acc r => r.nets.foldl addB acc) []
def classesB (rs : List Rt) : List Pf := (netsB rs).mergeSort SortP.leB
theorem add_len (p : Pf) (acc : List Pf) : (addB acc p).length ≤ acc.length + 1 := by
  unfold addB; split
  · omega
  · simp
theorem adds_len (ps : List Pf) : ∀ acc, (ps.foldl addB acc).length ≤ acc.length + ps.length := by
  induction ps with
  | nil => intro acc; simp
  | cons p ps ih =>
    intro acc; have := ih (addB acc p); have := add_len p acc; simp only [List.foldl_cons, List.length_cons]; omega
theorem take_foldl2 {α β : Type} (f : β → α → β) (b : β) (l : List α) (k : Nat) (x : α) (hx : l[k]? = some x) : (l.take (k + 1)).foldl f b = f ((l.take k).foldl f b) x := by
  obtain ⟨hj, rfl⟩ := List.getElem?_eq_some_iff.1 hx; rw [List.take_succ_eq_append_getElem hj, List.foldl_append]; rfl
def tot (rs : List Rt) : Nat := (rs.map fun r => r.nets.length).sum
theorem nets_len (rs : List Rt) : ∀ acc : List Pf, (rs.foldl (fun acc r => r.nets.foldl addB acc) acc).length ≤ acc.length + tot rs := by
  induction rs with
  | nil => intro acc; simp
  | cons r rs ih =>
    intro acc; have h1 := ih (r.nets.foldl addB acc); have h2 := adds_len r.nets acc; (have h3 : tot (r :: rs) = r.nets.length + tot rs := by simp [tot]); simp only [List.foldl_cons]; omega
theorem tot_take : ∀ (rs : List Rt) (k : Nat) (r : Rt), rs[k]? = some r → tot (rs.take k) + r.nets.length ≤ tot rs
  | [], k, r, h => by simp at h
  | x :: rs, 0, r, h => by
    (have e : x = r := by simpa using h); subst e; simp [tot]
  | x :: rs, k + 1, r, h => by
    have h1 := tot_take rs k r (by simpa using h); simp only [tot, List.take_succ_cons, List.map_cons, List.sum_cons] at h1 ⊢; omega
theorem info_pfz : (Try.prog.info? 36).map (·.zero) = some (some (.agg #[.int .u32 0, .int .i64 0])) := by kernel_rfl
theorem info_pfs : (Try.prog.info? 36).map (fun i => (i.zero, i.size, i.bytes)) = some (some (.agg #[.int .u32 0, .int .i64 0]), 2, 16) := by kernel_rfl
set_option maxHeartbeats 4000000 in
set_option maxRecDepth 100000 in
theorem classes_calls {w : World} {A1 : Option Addr} {rs : List Rt} {c1 : Nat} (v0 : Value) (hr : Row rtR w (· < w.heap.size) A1 rs) (hnl : tot rs ≤ 8000000000000) :
    Calls Try.prog 6 #[.agg #[v0, .slice A1 rs.length c1]] w fun e W => ∃ v, e = .returned v ∧ Mem w W [] [own pfR 36 v (classesB rs)] := by
  have H := (MemM.start w).box 30 [v0, .slice A1 rs.length c1]; have hrl := hr.len; unfold maxLen at hrl; go_enter Try.func6, Try.ntmps6; go_wp2_with fail; generalize w.heap.size = g at H ⊢; generalize w.alloc (.cells #[v0, .slice A1 rs.length c1] 30) = W0 at H ⊢; have q0 := (H.boxcell (.head _) 0 _ rfl).1; have q1 := (H.boxcell (.head _) 1 _ rfl).1; go_wp2; have H := H.nilItem pfR 36; go_loopw [3, 11] (fun v3 v11 W => ∃ k : Nat, k ≤ rs.length ∧ v11 = .int .i64 k ∧ Mem w W [] [own pfR 36 v3 ((rs.take k).foldl (fun acc r => r.nets.foldl addB acc) []), box g 30 [v0, .slice A1 rs.length c1]]) (fun _ v11 _ => rs.length - (intOf v11).toNat)
  case atStart => exact ⟨0, Nat.zero_le _, rfl, H⟩
  case round =>
    clear H q0 q1; obtain ⟨k, hk, rfl, H⟩ := hrel; by_cases hlt : k < rs.length
    · obtain ⟨r, hrk⟩ : ∃ r, rs[k]? = some r := ⟨_, List.getElem?_eq_getElem hlt⟩
      obtain ⟨ad, A2, n2, A3, n3, A4, n4, rfl, hx, hnets, -, -⟩ := hr.rt1 hrk; have hx := hide (oldcells H hx); have hn := tot_take rs k r hrk; have hacc := nets_len (rs.take k) []; have hnr := hnets.len; unfold maxLen at hnr; have hts := hide (take_foldl2 (fun acc (r : Rt) => r.nets.foldl addB acc) [] rs k r hrk); clear hrk; generalize (rs.take k).foldl (fun acc r => r.nets.foldl addB acc) [] = acc at H hacc hts
      go_upto_region 5 with (first
        | ((with_reducible refine gate_dst (N := 14) rfl ?_); refine wp_ldcells [.string (bs r.name), .slice A2 r.nets.length n2, .slice A3 r.links.length n3, .slice A4 r.ways.length n4, .int .i64 r.at_] hx.out rfl _ _ rfl rfl _ Try.underlying51 rfl (by kernel_rfl) ?_)
        | ((with_reducible refine gate_dst (N := 5) rfl ?_); refine wp_alloc H rfl _ rfl _ info_rt _ rfl ?_; clear H hx; intro gr W1 H)
        | (refine wp_stbox H rfl _ _ _ rfl 0 rfl _ rfl _ rfl (by kernel_rfl) rfl (Nat.le_of_ble_eq_true rfl) [.string (bs r.name), .slice A2 r.nets.length n2, .slice A3 r.links.length n3, .slice A4 r.ways.length n4, .int .i64 r.at_] rfl ?_; clear H; intro W2 H))
      have x0 := (H.boxcell (.head _) 0 _ rfl).1; have x1 := (H.boxcell (.head _) 1 _ rfl).1; have x2 := (H.boxcell (.head _) 2 _ rfl).1; have x3 := (H.boxcell (.head _) 3 _ rfl).1; have x4 := (H.boxcell (.head _) 4 _ rfl).1; go_wp2; replace H := H.pull1; go_loopw [3, 18] (fun v3 v18 W => ∃ j : Nat, j ≤ r.nets.length ∧ v18 = .int .i64 j ∧ Mem w W [] [own pfR 36 v3 ((r.nets.take j).foldl addB acc), box gr 51 [.string (bs r.name), .slice A2 r.nets.length n2, .slice A3 r.links.length n3, .slice A4 r.ways.length n4, .int .i64 r.at_], box g 30 [v0, .slice (some ad) rs.length c1]]) (fun _ v18 _ => r.nets.length - (intOf v18).toNat)
      case atStart => exact ⟨0, Nat.zero_le _, rfl, H⟩
      case round =>
        clear H x0 x1 x2 x3 x4; obtain ⟨j, hj, rfl, H⟩ := hrel; by_cases hjl : j < r.nets.length
        · obtain ⟨p, hpj⟩ : ∃ p, r.nets[j]? = some p := ⟨_, List.getElem?_eq_getElem hjl⟩
          obtain ⟨al, rfl, hxl⟩ := hnets.flat1 hpj; have hxl := hide (oldcells H hxl); have htj := hide (take_foldl2 addB acc r.nets j p hpj); have hal := adds_len (r.nets.take j) acc; rw [List.length_take] at hal; clear hpj; obtain ⟨pa, pb⟩ := p; generalize (r.nets.take j).foldl addB acc = ac at H htj hal
          go_upto_region 8 with (first
            | ((with_reducible refine gate_dst (N := 21) rfl ?_); refine wp_ldcells [.int .u32 pa, .int .i64 pb] hxl.out rfl _ _ rfl rfl _ Try.underlying36 rfl (by kernel_rfl) ?_)
            | ((with_reducible refine gate_dst (N := 7) rfl ?_); refine wp_alloc H rfl _ rfl _ info_pfz _ rfl ?_; clear H hxl; intro gp W1 H)
            | (refine wp_stbox H rfl _ _ _ rfl 0 rfl _ rfl _ rfl (by kernel_rfl) rfl (Nat.le_of_ble_eq_true rfl) [.int .u32 pa, .int .i64 pb] rfl ?_; clear H; intro W2 H))
          obtain ⟨A5, p5, rfl⟩ := H.one (.tail _ (.head _)); obtain ⟨-, -, hac⟩ := H.rdx (.tail _ (.head _)); have y0 := (H.boxcell (.head _) 0 _ rfl).1; have y1 := (H.boxcell (.head _) 1 _ rfl).1; have hcon := hide (contains_calls (n := p5) hac pa pb); generalize hq : decide (0 ≤ indexB ac ⟨pa, pb⟩) = q at hcon; cases q
          · have hadd : addB ac ⟨pa, pb⟩ = ac ++ [⟨pa, pb⟩] := by
              unfold addB; rw [if_neg (of_decide_eq_false hq)]
            rw [hadd] at htj; clear hq hac
            go_wp2_with (first
              | (go_at_call 15; refine hcon.out.mono ?_; rintro e W3 ⟨rfl, hm⟩; clear y0 y1 hcon; replace H := H.call hm; clear hm; have y0 := (H.boxcell (.head _) 0 _ rfl).1; have y1 := (H.boxcell (.head _) 1 _ rfl).1)
              | ((with_reducible refine gate_dst (N := 29) rfl ?_); refine wp_append H.pull1 rfl _ _ _ (.agg #[.int .u32 0, .int .i64 0]) 16 rfl Try.underlying32 info_pfs rfl (by decide) (by decide) ⟨pa, pb⟩ [.int .u32 pa, .int .i64 pb] rfl rfl (fun _ _ => rfl) (by simp only [List.length_nil] at hacc; omega) ?_; clear H; intro v1 W4 H))
            go_roundw
            case rel => exact ⟨j + 1, by omega, by go_num, by rw [htj.out]; exact H.pull1.drop⟩
            case measure => simp [intOf]; omega
          · have hadd : addB ac ⟨pa, pb⟩ = ac := by
              unfold addB; rw [if_pos (of_decide_eq_true hq)]
            rw [hadd] at htj; clear hq hac
            go_wp2_with (first
              | (go_at_call 15; refine hcon.out.mono ?_; rintro e W3 ⟨rfl, hm⟩; clear y0 y1 hcon; replace H := H.call hm; clear hm))
            go_roundw
            case rel => exact ⟨j + 1, by omega, by go_num, by rw [htj.out]; exact H.drop⟩
            case measure => simp [intOf]; omega
        · obtain rfl : j = r.nets.length := by omega
          rw [List.take_length] at H; go_wp2; go_roundw
          case rel => exact ⟨k + 1, by omega, by go_num, by rw [hts.out]; exact H.pull1.drop⟩
          case measure => simp [intOf]; omega
    · obtain rfl : k = rs.length := by omega
      have hacc := nets_len rs []; rw [List.take_length] at H; have hnb : netsB rs = rs.foldl (fun acc r => r.nets.foldl addB acc) [] := rfl; rw [← hnb] at H hacc; go_wp2_with (go_at_call 16; refine (SortP.sortp_mem H (by simp only [List.length_nil] at hacc; omega)).mono ?_; rintro e W1 ⟨rfl, H1⟩; clear H; have H := H1; clear H1); go_ret; exact ⟨_, rfl, H.pull1.drop⟩
end Go.Proofs.Ytnhdfjcecgjlgaa.Low
