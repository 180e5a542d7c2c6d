/- Texts of this work, joined: Cls, PLfx0, PLfx2, PLfx3, PLfx4, PLfx5, PLfx6, PLfx7. -/
import Derived.Test.YtcagkdgpoijkoaaJ2
import Derived.Test.YtcagkdgpoijkoaaProg
import Derived.Below
import Derived.Deep.Draws
import Derived.Deep.AppendLies
import Derived.Maps.AppendAt
import Derived.OwnWalk
import Derived.Laws.BytesArg
import Derived.Laws.MakeOwn
import Derived.Laws.OwnMore
import Derived.Deep.OwnRows
import Derived.Tactics
import Derived.Lib.ConvBytes
import Derived.Laws.Slices
import Derived.WalkKit
import Derived.KernelRfl
import Derived.RowKit3
import Derived.Deep.LoopGhost
import Derived.Deep.QuietTactic
import Derived.BigQuiet
import Derived.WideLaws
import Derived.Deep.DeepCutAuto
import Derived.Deep.CutBlock
import Derived.Deep.RegionHeld3
import Derived.Laws.Rows
import Derived.Lib.AppendStr
import Derived.ArgAppend
import Derived.Laws.IdiomCopy
import Derived.OrdersHeld
import Derived.Laws.BitsLemmas
import Derived.RowKit
import Derived.Test.YtcagkdgpoijkoaaWWords
import Derived.Test.YtcagkdgpoijkoaaWLast
import Derived.Test.YtcagkdgpoijkoaaWTab
import Derived.Test.YtcagkdgpoijkoaaWQPut
import Derived.Test.YtcagkdgpoijkoaaWApart
import Derived.Test.YtcagkdgpoijkoaaWZeros
import Derived.Test.YtcagkdgpoijkoaaWFoot
import Derived.Test.YtcagkdgpoijkoaaWKept
import Derived.Test.YtcagkdgpoijkoaaWShare
import Derived.Test.YtcagkdgpoijkoaaWN
import Derived.Test.YtcagkdgpoijkoaaWEqStruct
import Derived.Test.YtcagkdgpoijkoaaWRepsOne
import Derived.Test.YtcagkdgpoijkoaaWGuard
import Derived.Test.YtcagkdgpoijkoaaWNEv
import Derived.Test.YtcagkdgpoijkoaaWMore
import Derived.Test.YtcagkdgpoijkoaaJ1
import Derived.Test.YtcagkdgpoijkoaaJ0
section
namespace Go.Proofs.Ytcagkdgpoijkoaa.Low
open Go.RowKit Go.Proofs.Ytcagkdgpoijkoaa.Mq Go.Proofs.Ytcagkdgpoijkoaa.Pfx Go.Proofs.Ytcagkdgpoijkoaa.Cls Go.Proofs.Ytcagkdgpoijkoaa.Map
set_option linter.unusedVariables false
set_option linter.unusedSimpArgs false
def addB (acc : List Pf) (p : Pf) : List Pf := if 0 ≤ indexB acc p then acc else acc ++ [p]
def netsB (rs : List Rt) : List Pf := rs.foldl (fun acc r => r.nets.foldl addB acc) []
def classesB (rs : List Rt) : List Pf := (netsB rs).mergeSort SortP.leB
theorem add_len (p : Pf) (acc : List Pf) : (addB acc p).length ≤ acc.length + 1 := by
  unfold addB; split
  · omega
  · simp
theorem adds_len (ps : List Pf) : ∀ acc, (ps.foldl addB acc).length ≤ acc.length + ps.length := by
  induction ps with
  | nil => intro acc; simp
  | cons p ps ih =>
    intro acc; have := ih (addB acc p); have := add_len p acc; simp only [List.foldl_cons, List.length_cons]; omega
theorem take_foldl2 {α β : Type} (f : β → α → β) (b : β) (l : List α) (k : Nat) (x : α) (hx : l[k]? = some x) : (l.take (k + 1)).foldl f b = f ((l.take k).foldl f b) x := by
  obtain ⟨hj, rfl⟩ := List.getElem?_eq_some_iff.1 hx; rw [List.take_succ_eq_append_getElem hj, List.foldl_append]; rfl
def tot (rs : List Rt) : Nat := (rs.map fun r => r.nets.length).sum
theorem nets_len (rs : List Rt) : ∀ acc : List Pf, (rs.foldl (fun acc r => r.nets.foldl addB acc) acc).length ≤ acc.length + tot rs := by
  induction rs with
  | nil => intro acc; simp
  | cons r rs ih =>
    intro acc; have h1 := ih (r.nets.foldl addB acc); have h2 := adds_len r.nets acc; (have h3 : tot (r :: rs) = r.nets.length + tot rs := by simp [tot]); simp only [List.foldl_cons]; omega
theorem tot_take : ∀ (rs : List Rt) (k : Nat) (r : Rt), rs[k]? = some r → tot (rs.take k) + r.nets.length ≤ tot rs
  | [], k, r, h => by simp at h
  | x :: rs, 0, r, h => by
    (have e : x = r := by simpa using h); subst e; simp [tot]
  | x :: rs, k + 1, r, h => by
    have h1 := tot_take rs k r (by simpa using h); simp only [tot, List.take_succ_cons, List.map_cons, List.sum_cons] at h1 ⊢; omega
theorem info_pfz : (Try.prog.info? 35).map (·.zero) = some (some (.agg #[.int .u32 0, .int .i64 0])) := by kernel_rfl
theorem info_pfs : (Try.prog.info? 35).map (fun i => (i.zero, i.size, i.bytes)) = some (some (.agg #[.int .u32 0, .int .i64 0]), 2, 16) := by kernel_rfl
set_option maxHeartbeats 4000000 in
set_option maxRecDepth 100000 in
theorem classes_calls {w : World} {A1 : Option Addr} {rs : List Rt} {c1 : Nat} (v0 : Value) (hr : Row rtR w (· < w.heap.size) A1 rs) (hnl : tot rs ≤ 8000000000000) :
    Calls Try.prog 22 #[.agg #[v0, .slice A1 rs.length c1]] w fun e W => ∃ v, e = .returned v ∧ Mem w W [] [own pfR 35 v (classesB rs)] := by
  have H := (MemM.start w).box 70 [v0, .slice A1 rs.length c1]; have hrl := hr.len; unfold maxLen at hrl; go_enter Try.func22, Try.ntmps22; go_wp2_with fail; generalize w.heap.size = g at H ⊢; generalize w.alloc (.cells #[v0, .slice A1 rs.length c1] 70) = W0 at H ⊢; have q0 := (H.boxcell (.head _) 0 _ rfl).1; have q1 := (H.boxcell (.head _) 1 _ rfl).1; go_wp2; have H := H.nilItem pfR 35; go_loopw [3, 11] (fun v3 v11 W => ∃ k : Nat, k ≤ rs.length ∧ v11 = .int .i64 k ∧ Mem w W [] [own pfR 35 v3 ((rs.take k).foldl (fun acc r => r.nets.foldl addB acc) []), box g 70 [v0, .slice A1 rs.length c1]]) (fun _ v11 _ => rs.length - (intOf v11).toNat)
  case atStart => exact ⟨0, Nat.zero_le _, rfl, H⟩
  case round =>
    clear H q0 q1; obtain ⟨k, hk, rfl, H⟩ := hrel; by_cases hlt : k < rs.length
    · obtain ⟨r, hrk⟩ : ∃ r, rs[k]? = some r := ⟨_, List.getElem?_eq_getElem hlt⟩
      obtain ⟨ad, A2, n2, A3, n3, A4, n4, rfl, hx, hnets, -, -⟩ := hr.rt1 hrk; have hx := hide (oldcells H hx); have hn := tot_take rs k r hrk; have hacc := nets_len (rs.take k) []; have hnr := hnets.len; unfold maxLen at hnr; have hts := hide (take_foldl2 (fun acc (r : Rt) => r.nets.foldl addB acc) [] rs k r hrk); clear hrk; generalize (rs.take k).foldl (fun acc r => r.nets.foldl addB acc) [] = acc at H hacc hts
      go_upto_region 5 with (first
        | ((with_reducible refine gate_dst (N := 14) rfl ?_); refine wp_ldcells [.string (bs r.name), .slice A2 r.nets.length n2, .slice A3 r.links.length n3, .slice A4 r.ways.length n4, .int .i64 r.at_] hx.out rfl _ _ rfl rfl _ Try.underlying91 rfl (by kernel_rfl) ?_)
        | ((with_reducible refine gate_dst (N := 5) rfl ?_); refine wp_alloc H rfl _ rfl _ info_rt _ rfl ?_; clear H hx; intro gr W1 H)
        | (refine wp_stbox H rfl _ _ _ rfl 0 rfl _ rfl _ rfl (by kernel_rfl) rfl (Nat.le_of_ble_eq_true rfl) [.string (bs r.name), .slice A2 r.nets.length n2, .slice A3 r.links.length n3, .slice A4 r.ways.length n4, .int .i64 r.at_] rfl ?_; clear H; intro W2 H))
      have x0 := (H.boxcell (.head _) 0 _ rfl).1; have x1 := (H.boxcell (.head _) 1 _ rfl).1; have x2 := (H.boxcell (.head _) 2 _ rfl).1; have x3 := (H.boxcell (.head _) 3 _ rfl).1; have x4 := (H.boxcell (.head _) 4 _ rfl).1; go_wp2; replace H := H.pull1; go_loopw [3, 18] (fun v3 v18 W => ∃ j : Nat, j ≤ r.nets.length ∧ v18 = .int .i64 j ∧ Mem w W [] [own pfR 35 v3 ((r.nets.take j).foldl addB acc), box gr 91 [.string (bs r.name), .slice A2 r.nets.length n2, .slice A3 r.links.length n3, .slice A4 r.ways.length n4, .int .i64 r.at_], box g 70 [v0, .slice (some ad) rs.length c1]]) (fun _ v18 _ => r.nets.length - (intOf v18).toNat)
      case atStart => exact ⟨0, Nat.zero_le _, rfl, H⟩
      case round =>
        clear H x0 x1 x2 x3 x4; obtain ⟨j, hj, rfl, H⟩ := hrel; by_cases hjl : j < r.nets.length
        · obtain ⟨p, hpj⟩ : ∃ p, r.nets[j]? = some p := ⟨_, List.getElem?_eq_getElem hjl⟩
          obtain ⟨al, rfl, hxl⟩ := hnets.flat1 hpj; have hxl := hide (oldcells H hxl); have htj := hide (take_foldl2 addB acc r.nets j p hpj); have hal := adds_len (r.nets.take j) acc; rw [List.length_take] at hal; clear hpj; obtain ⟨pa, pb⟩ := p; generalize (r.nets.take j).foldl addB acc = ac at H htj hal
          go_upto_region 8 with (first
            | ((with_reducible refine gate_dst (N := 21) rfl ?_); refine wp_ldcells [.int .u32 pa, .int .i64 pb] hxl.out rfl _ _ rfl rfl _ Try.underlying35 rfl (by kernel_rfl) ?_)
            | ((with_reducible refine gate_dst (N := 7) rfl ?_); refine wp_alloc H rfl _ rfl _ info_pfz _ rfl ?_; clear H hxl; intro gp W1 H)
            | (refine wp_stbox H rfl _ _ _ rfl 0 rfl _ rfl _ rfl (by kernel_rfl) rfl (Nat.le_of_ble_eq_true rfl) [.int .u32 pa, .int .i64 pb] rfl ?_; clear H; intro W2 H))
          obtain ⟨A5, p5, rfl⟩ := H.one (.tail _ (.head _)); obtain ⟨-, -, hac⟩ := H.rdx (.tail _ (.head _)); have y0 := (H.boxcell (.head _) 0 _ rfl).1; have y1 := (H.boxcell (.head _) 1 _ rfl).1; have hcon := hide (contains_calls (n := p5) hac pa pb); generalize hq : decide (0 ≤ indexB ac ⟨pa, pb⟩) = q at hcon; cases q
          · have hadd : addB ac ⟨pa, pb⟩ = ac ++ [⟨pa, pb⟩] := by
              unfold addB; rw [if_neg (of_decide_eq_false hq)]
            rw [hadd] at htj; clear hq hac
            go_wp2_with (first
              | (go_at_call 36; refine hcon.out.mono ?_; rintro e W3 ⟨rfl, hm⟩; clear y0 y1 hcon; replace H := H.call hm; clear hm; have y0 := (H.boxcell (.head _) 0 _ rfl).1; have y1 := (H.boxcell (.head _) 1 _ rfl).1)
              | ((with_reducible refine gate_dst (N := 29) rfl ?_); refine wp_append H.pull1 rfl _ _ _ (.agg #[.int .u32 0, .int .i64 0]) 16 rfl Try.underlying72 info_pfs rfl (by decide) (by decide) ⟨pa, pb⟩ [.int .u32 pa, .int .i64 pb] rfl rfl (fun _ _ => rfl) (by simp only [List.length_nil] at hacc; omega) ?_; clear H; intro v1 W4 H))
            go_roundw
            case rel => exact ⟨j + 1, by omega, by go_num, by rw [htj.out]; exact H.pull1.drop⟩
            case measure => simp [intOf]; omega
          · have hadd : addB ac ⟨pa, pb⟩ = ac := by
              unfold addB; rw [if_pos (of_decide_eq_true hq)]
            rw [hadd] at htj; clear hq hac
            go_wp2_with (first
              | (go_at_call 36; refine hcon.out.mono ?_; rintro e W3 ⟨rfl, hm⟩; clear y0 y1 hcon; replace H := H.call hm; clear hm))
            go_roundw
            case rel => exact ⟨j + 1, by omega, by go_num, by rw [htj.out]; exact H.drop⟩
            case measure => simp [intOf]; omega
        · obtain rfl : j = r.nets.length := by omega
          rw [List.take_length] at H; go_wp2; go_roundw
          case rel => exact ⟨k + 1, by omega, by go_num, by rw [hts.out]; exact H.pull1.drop⟩
          case measure => simp [intOf]; omega
    · obtain rfl : k = rs.length := by omega
      have hacc := nets_len rs []; rw [List.take_length] at H; have hnb : netsB rs = rs.foldl (fun acc r => r.nets.foldl addB acc) [] := rfl; rw [← hnb] at H hacc; go_wp2_with (go_at_call 37; refine (SortP.sortp_mem H (by simp only [List.length_nil] at hacc; omega)).mono ?_; rintro e W1 ⟨rfl, H1⟩; clear H; have H := H1; clear H1); go_ret; exact ⟨_, rfl, H.pull1.drop⟩
end Go.Proofs.Ytcagkdgpoijkoaa.Low
end
section
namespace Go.Proofs.Ytcagkdgpoijkoaa.PLf
open Go.RowKit Go.Proofs.YtcagkdgpoijkoaaW.PrintWords Go.Proofs.YtcagkdgpoijkoaaW.PrintLast Go.Proofs.YtcagkdgpoijkoaaW.PrintMore
attribute [local go_sem] max2_int min2_int max_two min_two max_three min_three max_four min_four
set_option linter.unusedVariables false
set_option linter.unusedSimpArgs false
def errW : Option Int → Value
  | none => .nilIface
  | some c => .iface 0 (.int .i64 c)
theorem errW_none : errW none = .nilIface := rfl
theorem errW_some (c : Int) : errW (some c) = .iface 0 (.int .i64 c) := rfl
theorem info3 : (Try.prog.info? 3).map (fun i => (i.zero, i.size, i.bytes)) = some (some (.int .i64 0), 1, 8) := by kernel_rfl
theorem info35 : (Try.prog.info? 35).map (fun i => (i.zero, i.size, i.bytes)) = some (some (.agg #[(.int .u32 0), (.int .i64 0)]), 2, 16) := by kernel_rfl
theorem info41 : (Try.prog.info? 41).map (fun i => (i.zero, i.size, i.bytes)) = some (some (.agg #[(.bool false), (.int .i64 0), (.int .i64 0), (.int .u8 0)]), 4, 32) := by kernel_rfl
theorem info61 : (Try.prog.info? 61).map (fun i => (i.zero, i.size, i.bytes)) = some (some (.agg #[(.bool false), (.bool false), (.slice none 0 0)]), 3, 32) := by kernel_rfl
theorem info86 : (Try.prog.info? 86).map (fun i => (i.zero, i.size, i.bytes)) = some (some (.agg #[(.string ⟨#[]⟩), (.slice none 0 0), (.int .i64 0)]), 3, 48) := by kernel_rfl
theorem info91 : (Try.prog.info? 91).map (fun i => (i.zero, i.size, i.bytes)) = some (some (.agg #[(.string ⟨#[]⟩), (.slice none 0 0), (.slice none 0 0), (.slice none 0 0), (.int .i64 0)]), 5, 96) := by kernel_rfl
theorem info95 : (Try.prog.info? 95).map (fun i => (i.zero, i.size, i.bytes)) = some (some (.agg #[(.string ⟨#[]⟩), (.int .i64 0), (.string ⟨#[]⟩), (.string ⟨#[]⟩), (.int .i64 0)]), 5, 64) := by kernel_rfl
theorem info97 : (Try.prog.info? 97).map (fun i => (i.zero, i.size, i.bytes)) = some (some (.agg #[(.int .u32 0), (.int .i64 0), (.string ⟨#[]⟩), (.int .i64 0)]), 4, 40) := by kernel_rfl
theorem info116 : (Try.prog.info? 116).map (fun i => (i.zero, i.size, i.bytes)) = some (some (.agg #[(.bool false), (.int .u32 0), (.int .i64 0), (.int .u8 0), (.int .u8 0), (.bool false), (.int .u8 0), (.int .u8 0), (.int .i64 0), (.int .i64 0)]), 10, 48) := by kernel_rfl
structure S114 where
  f0 : Int
  f1 : Int
  f2 : Int
  f3 : Int
  f4 : Int
  f5 : Int
def z114 : S114 := ⟨(0 : Int), (0 : Int), (0 : Int), (0 : Int), (0 : Int), (0 : Int)⟩
def k114 : Kd S114 := Kd.iso (Kd.pair (Kd.int .u8) (Kd.pair (Kd.int .u8) (Kd.pair (Kd.int .u8) (Kd.pair (Kd.int .u8) (Kd.pair (Kd.int .u8) (Kd.int .u8)))))) (fun x : S114 => (x.f0, x.f1, x.f2, x.f3, x.f4, x.f5))
theorem k114_open {w : World} {x : S114} {cs : List Value} (h : k114.K w x cs) : cs = [.int .u8 x.f0, .int .u8 x.f1, .int .u8 x.f2, .int .u8 x.f3, .int .u8 x.f4, .int .u8 x.f5] := by
  obtain ⟨_, _, rfl, rfl, ⟨_, _, rfl, rfl, ⟨_, _, rfl, rfl, ⟨_, _, rfl, rfl, ⟨_, _, rfl, rfl, rfl⟩⟩⟩⟩⟩ := h
  exact rfl
def rd_T114 (xs : List S114) (i : Int) : S114 := xs.getD i.toNat z114
theorem at_T114 {w : World} {A : Option Addr} {n : Nat} {xs : List S114} (h : Kd.C k114 w A n xs) (i : Int) (h0 : 0 ≤ i) (h1 : i < n) : ∃ ad , A = some ad ∧ w.cell? (ad.add (i.toNat * 6)) = some (.int .u8 (rd_T114 xs i).f0) ∧ w.cell? ⟨(ad.add (i.toNat * 6)).block, (ad.add (i.toNat * 6)).off + 1, none⟩ = some (.int .u8 (rd_T114 xs i).f1) ∧ w.cell? ⟨(ad.add (i.toNat * 6)).block, (ad.add (i.toNat * 6)).off + 2, none⟩ = some (.int .u8 (rd_T114 xs i).f2) ∧ w.cell? ⟨(ad.add (i.toNat * 6)).block, (ad.add (i.toNat * 6)).off + 3, none⟩ = some (.int .u8 (rd_T114 xs i).f3) ∧ w.cell? ⟨(ad.add (i.toNat * 6)).block, (ad.add (i.toNat * 6)).off + 4, none⟩ = some (.int .u8 (rd_T114 xs i).f4) ∧ w.cell? ⟨(ad.add (i.toNat * 6)).block, (ad.add (i.toNat * 6)).off + 5, none⟩ = some (.int .u8 (rd_T114 xs i).f5) := by
  obtain ⟨ad, c, e, _, hK, hc0⟩ := Kd.C_get h z114 i h0 h1
  have hc : ∀ j u, c[j]? = some u → w.cell? (ad.add (i.toNat * 6 + j)) = some u := hc0
  obtain rfl := k114_open hK
  exact ⟨ad, e, hc 0 _ rfl, by rw [← add_field _ _ 1 (by omega)]; exact hc 1 _ rfl, by rw [← add_field _ _ 2 (by omega)]; exact hc 2 _ rfl, by rw [← add_field _ _ 3 (by omega)]; exact hc 3 _ rfl, by rw [← add_field _ _ 4 (by omega)]; exact hc 4 _ rfl, by rw [← add_field _ _ 5 (by omega)]; exact hc 5 _ rfl⟩
structure S35 where
  f0 : Int
  f1 : Int
def z35 : S35 := ⟨(0 : Int), (0 : Int)⟩
def k35 : Kd S35 := Kd.iso (Kd.pair (Kd.int .u32) (Kd.int .i64)) (fun x : S35 => (x.f0, x.f1))
theorem k35_open {w : World} {x : S35} {cs : List Value} (h : k35.K w x cs) : cs = [.int .u32 x.f0, .int .i64 x.f1] := by
  obtain ⟨_, _, rfl, rfl, rfl⟩ := h
  exact rfl
theorem k35_mk (w : World) (x : S35)  : k35.K w x [.int .u32 x.f0, .int .i64 x.f1] := ⟨[.int .u32 x.f0], [.int .i64 x.f1], rfl, rfl, rfl⟩
theorem k35_mkM (w : World) (base : Nat) (ok : Nat → Prop) (x : S35)  : k35.M w base ok x [.int .u32 x.f0, .int .i64 x.f1] := ⟨[.int .u32 x.f0], [.int .i64 x.f1], rfl, rfl, rfl⟩
def rd_T35 (xs : List S35) (i : Int) : S35 := xs.getD i.toNat z35
theorem at_T35 {w : World} {A : Option Addr} {n : Nat} {xs : List S35} (h : Kd.C k35 w A n xs) (i : Int) (h0 : 0 ≤ i) (h1 : i < n) : ∃ ad , A = some ad ∧ w.cell? (ad.add (i.toNat * 2)) = some (.int .u32 (rd_T35 xs i).f0) ∧ w.cell? ⟨(ad.add (i.toNat * 2)).block, (ad.add (i.toNat * 2)).off + 1, none⟩ = some (.int .i64 (rd_T35 xs i).f1) := by
  obtain ⟨ad, c, e, _, hK, hc0⟩ := Kd.C_get h z35 i h0 h1
  have hc : ∀ j u, c[j]? = some u → w.cell? (ad.add (i.toNat * 2 + j)) = some u := hc0
  obtain rfl := k35_open hK
  exact ⟨ad, e, hc 0 _ rfl, by rw [← add_field _ _ 1 (by omega)]; exact hc 1 _ rfl⟩
structure S116 where
  f0 : Bool
  f1 : S35
  f2 : Int
  f3 : Int
  f4 : Bool
  f5 : Int
  f6 : Int
  f7 : Int
  f8 : Int
def z116 : S116 := ⟨false, z35, (0 : Int), (0 : Int), false, (0 : Int), (0 : Int), (0 : Int), (0 : Int)⟩
def k116 : Kd S116 := Kd.iso (Kd.pair Kd.bool (Kd.pair k35 (Kd.pair (Kd.int .u8) (Kd.pair (Kd.int .u8) (Kd.pair Kd.bool (Kd.pair (Kd.int .u8) (Kd.pair (Kd.int .u8) (Kd.pair (Kd.int .i64) (Kd.int .i64))))))))) (fun x : S116 => (x.f0, x.f1, x.f2, x.f3, x.f4, x.f5, x.f6, x.f7, x.f8))
theorem k116_open {w : World} {x : S116} {cs : List Value} (h : k116.K w x cs) : cs = [.bool x.f0, .int .u32 x.f1.f0, .int .i64 x.f1.f1, .int .u8 x.f2, .int .u8 x.f3, .bool x.f4, .int .u8 x.f5, .int .u8 x.f6, .int .i64 x.f7, .int .i64 x.f8] := by
  obtain ⟨_, _, rfl, rfl, ⟨_, _, rfl, s1, ⟨_, _, rfl, rfl, ⟨_, _, rfl, rfl, ⟨_, _, rfl, rfl, ⟨_, _, rfl, rfl, ⟨_, _, rfl, rfl, ⟨_, _, rfl, rfl, rfl⟩⟩⟩⟩⟩⟩⟩⟩ := h
  obtain rfl := k35_open s1
  exact rfl
theorem k116_mk (w : World) (x : S116)  : k116.K w x [.bool x.f0, .int .u32 x.f1.f0, .int .i64 x.f1.f1, .int .u8 x.f2, .int .u8 x.f3, .bool x.f4, .int .u8 x.f5, .int .u8 x.f6, .int .i64 x.f7, .int .i64 x.f8] := ⟨[.bool x.f0], [.int .u32 x.f1.f0, .int .i64 x.f1.f1, .int .u8 x.f2, .int .u8 x.f3, .bool x.f4, .int .u8 x.f5, .int .u8 x.f6, .int .i64 x.f7, .int .i64 x.f8], rfl, rfl, ⟨[.int .u32 x.f1.f0, .int .i64 x.f1.f1], [.int .u8 x.f2, .int .u8 x.f3, .bool x.f4, .int .u8 x.f5, .int .u8 x.f6, .int .i64 x.f7, .int .i64 x.f8], rfl, (k35_mk w x.f1 ), ⟨[.int .u8 x.f2], [.int .u8 x.f3, .bool x.f4, .int .u8 x.f5, .int .u8 x.f6, .int .i64 x.f7, .int .i64 x.f8], rfl, rfl, ⟨[.int .u8 x.f3], [.bool x.f4, .int .u8 x.f5, .int .u8 x.f6, .int .i64 x.f7, .int .i64 x.f8], rfl, rfl, ⟨[.bool x.f4], [.int .u8 x.f5, .int .u8 x.f6, .int .i64 x.f7, .int .i64 x.f8], rfl, rfl, ⟨[.int .u8 x.f5], [.int .u8 x.f6, .int .i64 x.f7, .int .i64 x.f8], rfl, rfl, ⟨[.int .u8 x.f6], [.int .i64 x.f7, .int .i64 x.f8], rfl, rfl, ⟨[.int .i64 x.f7], [.int .i64 x.f8], rfl, rfl, rfl⟩⟩⟩⟩⟩⟩⟩⟩
theorem k116_mkM (w : World) (base : Nat) (ok : Nat → Prop) (x : S116)  : k116.M w base ok x [.bool x.f0, .int .u32 x.f1.f0, .int .i64 x.f1.f1, .int .u8 x.f2, .int .u8 x.f3, .bool x.f4, .int .u8 x.f5, .int .u8 x.f6, .int .i64 x.f7, .int .i64 x.f8] := ⟨[.bool x.f0], [.int .u32 x.f1.f0, .int .i64 x.f1.f1, .int .u8 x.f2, .int .u8 x.f3, .bool x.f4, .int .u8 x.f5, .int .u8 x.f6, .int .i64 x.f7, .int .i64 x.f8], rfl, rfl, ⟨[.int .u32 x.f1.f0, .int .i64 x.f1.f1], [.int .u8 x.f2, .int .u8 x.f3, .bool x.f4, .int .u8 x.f5, .int .u8 x.f6, .int .i64 x.f7, .int .i64 x.f8], rfl, (k35_mkM w base ok x.f1 ), ⟨[.int .u8 x.f2], [.int .u8 x.f3, .bool x.f4, .int .u8 x.f5, .int .u8 x.f6, .int .i64 x.f7, .int .i64 x.f8], rfl, rfl, ⟨[.int .u8 x.f3], [.bool x.f4, .int .u8 x.f5, .int .u8 x.f6, .int .i64 x.f7, .int .i64 x.f8], rfl, rfl, ⟨[.bool x.f4], [.int .u8 x.f5, .int .u8 x.f6, .int .i64 x.f7, .int .i64 x.f8], rfl, rfl, ⟨[.int .u8 x.f5], [.int .u8 x.f6, .int .i64 x.f7, .int .i64 x.f8], rfl, rfl, ⟨[.int .u8 x.f6], [.int .i64 x.f7, .int .i64 x.f8], rfl, rfl, ⟨[.int .i64 x.f7], [.int .i64 x.f8], rfl, rfl, rfl⟩⟩⟩⟩⟩⟩⟩⟩
def rd_T116 (xs : List S116) (i : Int) : S116 := xs.getD i.toNat z116
theorem at_T116 {w : World} {A : Option Addr} {n : Nat} {xs : List S116} (h : Kd.C k116 w A n xs) (i : Int) (h0 : 0 ≤ i) (h1 : i < n) : ∃ ad , A = some ad ∧ w.cell? (ad.add (i.toNat * 10)) = some (.bool (rd_T116 xs i).f0) ∧ w.cell? ⟨(ad.add (i.toNat * 10)).block, (ad.add (i.toNat * 10)).off + 1, none⟩ = some (.int .u32 (rd_T116 xs i).f1.f0) ∧ w.cell? ⟨(ad.add (i.toNat * 10)).block, (ad.add (i.toNat * 10)).off + 2, none⟩ = some (.int .i64 (rd_T116 xs i).f1.f1) ∧ w.cell? ⟨(ad.add (i.toNat * 10)).block, (ad.add (i.toNat * 10)).off + 3, none⟩ = some (.int .u8 (rd_T116 xs i).f2) ∧ w.cell? ⟨(ad.add (i.toNat * 10)).block, (ad.add (i.toNat * 10)).off + 4, none⟩ = some (.int .u8 (rd_T116 xs i).f3) ∧ w.cell? ⟨(ad.add (i.toNat * 10)).block, (ad.add (i.toNat * 10)).off + 5, none⟩ = some (.bool (rd_T116 xs i).f4) ∧ w.cell? ⟨(ad.add (i.toNat * 10)).block, (ad.add (i.toNat * 10)).off + 6, none⟩ = some (.int .u8 (rd_T116 xs i).f5) ∧ w.cell? ⟨(ad.add (i.toNat * 10)).block, (ad.add (i.toNat * 10)).off + 7, none⟩ = some (.int .u8 (rd_T116 xs i).f6) ∧ w.cell? ⟨(ad.add (i.toNat * 10)).block, (ad.add (i.toNat * 10)).off + 8, none⟩ = some (.int .i64 (rd_T116 xs i).f7) ∧ w.cell? ⟨(ad.add (i.toNat * 10)).block, (ad.add (i.toNat * 10)).off + 9, none⟩ = some (.int .i64 (rd_T116 xs i).f8) := by
  obtain ⟨ad, c, e, _, hK, hc0⟩ := Kd.C_get h z116 i h0 h1
  have hc : ∀ j u, c[j]? = some u → w.cell? (ad.add (i.toNat * 10 + j)) = some u := hc0
  obtain rfl := k116_open hK
  exact ⟨ad, e, hc 0 _ rfl, by rw [← add_field _ _ 1 (by omega)]; exact hc 1 _ rfl, by rw [← add_field _ _ 2 (by omega)]; exact hc 2 _ rfl, by rw [← add_field _ _ 3 (by omega)]; exact hc 3 _ rfl, by rw [← add_field _ _ 4 (by omega)]; exact hc 4 _ rfl, by rw [← add_field _ _ 5 (by omega)]; exact hc 5 _ rfl, by rw [← add_field _ _ 6 (by omega)]; exact hc 6 _ rfl, by rw [← add_field _ _ 7 (by omega)]; exact hc 7 _ rfl, by rw [← add_field _ _ 8 (by omega)]; exact hc 8 _ rfl, by rw [← add_field _ _ 9 (by omega)]; exact hc 9 _ rfl⟩
def rd_L7 (xs : List (List S114)) (i : Int) : (List S114) := xs.getD i.toNat ([] : List S114)
theorem at_L7 {w : World} {A : Option Addr} {n : Nat} {xs : List (List S114)} (h : Kd.C (Kd.slice 114 k114) w A n xs) (i : Int) (h0 : 0 ≤ i) (h1 : i < n) : ∃ ad A0 c0, A = some ad ∧ w.cell? (ad.add i.toNat) = some (.slice A0 (rd_L7 xs i).length c0) ∧ (rd_L7 xs i).length ≤ c0 ∧ k114.C w A0 (rd_L7 xs i).length (rd_L7 xs i) := by
  obtain ⟨ad, c, e, _, hK, hc0⟩ := Kd.C_get h ([] : List S114) i h0 h1
  have hc : ∀ j u, c[j]? = some u → w.cell? (ad.add (i.toNat * 1 + j)) = some u := hc0
  obtain ⟨A0, c0, rfl, l0, g0⟩ := hK
  exact ⟨ad, A0, c0, e, by have hq := hc 0 _ rfl; rwa [Nat.mul_one, Nat.add_zero] at hq, l0, g0⟩
structure S95 where
  f0 : ByteArray
  f1 : Int
  f2 : ByteArray
  f3 : ByteArray
  f4 : Int
def z95 : S95 := ⟨(⟨#[]⟩ : ByteArray), (0 : Int), (⟨#[]⟩ : ByteArray), (⟨#[]⟩ : ByteArray), (0 : Int)⟩
def k95 : Kd S95 := Kd.iso (Kd.pair Kd.string (Kd.pair (Kd.int .i64) (Kd.pair Kd.string (Kd.pair Kd.string (Kd.int .i64))))) (fun x : S95 => (x.f0, x.f1, x.f2, x.f3, x.f4))
theorem k95_open {w : World} {x : S95} {cs : List Value} (h : k95.K w x cs) : cs = [.string x.f0, .int .i64 x.f1, .string x.f2, .string x.f3, .int .i64 x.f4] := by
  obtain ⟨_, _, rfl, rfl, ⟨_, _, rfl, rfl, ⟨_, _, rfl, rfl, ⟨_, _, rfl, rfl, rfl⟩⟩⟩⟩ := h
  exact rfl
theorem k95_mkM (w : World) (base : Nat) (ok : Nat → Prop) (x : S95)  : k95.M w base ok x [.string x.f0, .int .i64 x.f1, .string x.f2, .string x.f3, .int .i64 x.f4] := ⟨[.string x.f0], [.int .i64 x.f1, .string x.f2, .string x.f3, .int .i64 x.f4], rfl, rfl, ⟨[.int .i64 x.f1], [.string x.f2, .string x.f3, .int .i64 x.f4], rfl, rfl, ⟨[.string x.f2], [.string x.f3, .int .i64 x.f4], rfl, rfl, ⟨[.string x.f3], [.int .i64 x.f4], rfl, rfl, rfl⟩⟩⟩⟩
def rd_T95 (xs : List S95) (i : Int) : S95 := xs.getD i.toNat z95
theorem at_T95 {w : World} {A : Option Addr} {n : Nat} {xs : List S95} (h : Kd.C k95 w A n xs) (i : Int) (h0 : 0 ≤ i) (h1 : i < n) : ∃ ad , A = some ad ∧ w.cell? (ad.add (i.toNat * 5)) = some (.string (rd_T95 xs i).f0) ∧ w.cell? ⟨(ad.add (i.toNat * 5)).block, (ad.add (i.toNat * 5)).off + 1, none⟩ = some (.int .i64 (rd_T95 xs i).f1) ∧ w.cell? ⟨(ad.add (i.toNat * 5)).block, (ad.add (i.toNat * 5)).off + 2, none⟩ = some (.string (rd_T95 xs i).f2) ∧ w.cell? ⟨(ad.add (i.toNat * 5)).block, (ad.add (i.toNat * 5)).off + 3, none⟩ = some (.string (rd_T95 xs i).f3) ∧ w.cell? ⟨(ad.add (i.toNat * 5)).block, (ad.add (i.toNat * 5)).off + 4, none⟩ = some (.int .i64 (rd_T95 xs i).f4) := by
  obtain ⟨ad, c, e, _, hK, hc0⟩ := Kd.C_get h z95 i h0 h1
  have hc : ∀ j u, c[j]? = some u → w.cell? (ad.add (i.toNat * 5 + j)) = some u := hc0
  obtain rfl := k95_open hK
  exact ⟨ad, e, hc 0 _ rfl, by rw [← add_field _ _ 1 (by omega)]; exact hc 1 _ rfl, by rw [← add_field _ _ 2 (by omega)]; exact hc 2 _ rfl, by rw [← add_field _ _ 3 (by omega)]; exact hc 3 _ rfl, by rw [← add_field _ _ 4 (by omega)]; exact hc 4 _ rfl⟩
structure S86 where
  f0 : ByteArray
  f1 : (List S116)
  f2 : Int
def k86 : Kd S86 := Kd.iso (Kd.pair Kd.string (Kd.pair (Kd.slice 116 k116) (Kd.int .i64))) (fun x : S86 => (x.f0, x.f1, x.f2))
theorem k86_open {w : World} {x : S86} {cs : List Value} (h : k86.K w x cs) : ∃ A1 c1, cs = [.string x.f0, .slice A1 x.f1.length c1, .int .i64 x.f2] ∧ x.f1.length ≤ c1 ∧ k116.C w A1 x.f1.length x.f1 := by
  obtain ⟨_, _, rfl, rfl, ⟨_, _, rfl, ⟨A1, c1, rfl, l1, g1⟩, rfl⟩⟩ := h
  exact ⟨A1, c1, rfl, l1, g1⟩
theorem k86_mkM (w : World) (base : Nat) (ok : Nat → Prop) (x : S86) {v1 : Value} (g1 : k116.R 116 w base ok v1 x.f1) : k86.M w base ok x [.string x.f0, v1, .int .i64 x.f2] := ⟨[.string x.f0], [v1, .int .i64 x.f2], rfl, rfl, ⟨[v1], [.int .i64 x.f2], rfl, ⟨v1, rfl, g1⟩, rfl⟩⟩
structure S97 where
  f0 : S35
  f1 : ByteArray
  f2 : Int
def k97 : Kd S97 := Kd.iso (Kd.pair k35 (Kd.pair Kd.string (Kd.int .i64))) (fun x : S97 => (x.f0, x.f1, x.f2))
theorem k97_open {w : World} {x : S97} {cs : List Value} (h : k97.K w x cs) : cs = [.int .u32 x.f0.f0, .int .i64 x.f0.f1, .string x.f1, .int .i64 x.f2] := by
  obtain ⟨_, _, rfl, s0, ⟨_, _, rfl, rfl, rfl⟩⟩ := h
  obtain rfl := k35_open s0
  exact rfl
theorem k97_mkM (w : World) (base : Nat) (ok : Nat → Prop) (x : S97)  : k97.M w base ok x [.int .u32 x.f0.f0, .int .i64 x.f0.f1, .string x.f1, .int .i64 x.f2] := ⟨[.int .u32 x.f0.f0, .int .i64 x.f0.f1], [.string x.f1, .int .i64 x.f2], rfl, (k35_mkM w base ok x.f0 ), ⟨[.string x.f1], [.int .i64 x.f2], rfl, rfl, rfl⟩⟩
structure S91 where
  f0 : ByteArray
  f1 : (List S35)
  f2 : (List S95)
  f3 : (List S97)
  f4 : Int
def k91 : Kd S91 := Kd.iso (Kd.pair Kd.string (Kd.pair (Kd.slice 35 k35) (Kd.pair (Kd.slice 95 k95) (Kd.pair (Kd.slice 97 k97) (Kd.int .i64))))) (fun x : S91 => (x.f0, x.f1, x.f2, x.f3, x.f4))
theorem k91_open {w : World} {x : S91} {cs : List Value} (h : k91.K w x cs) : ∃ A1 c1 A2 c2 A3 c3, cs = [.string x.f0, .slice A1 x.f1.length c1, .slice A2 x.f2.length c2, .slice A3 x.f3.length c3, .int .i64 x.f4] ∧ x.f1.length ≤ c1 ∧ k35.C w A1 x.f1.length x.f1 ∧ x.f2.length ≤ c2 ∧ k95.C w A2 x.f2.length x.f2 ∧ x.f3.length ≤ c3 ∧ k97.C w A3 x.f3.length x.f3 := by
  obtain ⟨_, _, rfl, rfl, ⟨_, _, rfl, ⟨A1, c1, rfl, l1, g1⟩, ⟨_, _, rfl, ⟨A2, c2, rfl, l2, g2⟩, ⟨_, _, rfl, ⟨A3, c3, rfl, l3, g3⟩, rfl⟩⟩⟩⟩ := h
  exact ⟨A1, c1, A2, c2, A3, c3, rfl, l1, g1, l2, g2, l3, g3⟩
theorem k91_mkM (w : World) (base : Nat) (ok : Nat → Prop) (x : S91) {v1 : Value} (g1 : k35.R 35 w base ok v1 x.f1) {v2 : Value} (g2 : k95.R 95 w base ok v2 x.f2) {v3 : Value} (g3 : k97.R 97 w base ok v3 x.f3) : k91.M w base ok x [.string x.f0, v1, v2, v3, .int .i64 x.f4] := ⟨[.string x.f0], [v1, v2, v3, .int .i64 x.f4], rfl, rfl, ⟨[v1], [v2, v3, .int .i64 x.f4], rfl, ⟨v1, rfl, g1⟩, ⟨[v2], [v3, .int .i64 x.f4], rfl, ⟨v2, rfl, g2⟩, ⟨[v3], [.int .i64 x.f4], rfl, ⟨v3, rfl, g3⟩, rfl⟩⟩⟩⟩
structure S70 where
  f0 : (List S86)
  f1 : (List S91)
def rd_L21 (xs : List (List Int)) (i : Int) : (List Int) := xs.getD i.toNat ([] : List Int)
theorem at_L21 {w : World} {A : Option Addr} {n : Nat} {xs : List (List Int)} (h : Kd.C (Kd.slice 3 (Kd.int .i64)) w A n xs) (i : Int) (h0 : 0 ≤ i) (h1 : i < n) : ∃ ad A0 c0, A = some ad ∧ w.cell? (ad.add i.toNat) = some (.slice A0 (rd_L21 xs i).length c0) ∧ (rd_L21 xs i).length ≤ c0 ∧ (Kd.int .i64).C w A0 (rd_L21 xs i).length (rd_L21 xs i) := by
  obtain ⟨ad, c, e, _, hK, hc0⟩ := Kd.C_get h ([] : List Int) i h0 h1
  have hc : ∀ j u, c[j]? = some u → w.cell? (ad.add (i.toNat * 1 + j)) = some u := hc0
  obtain ⟨A0, c0, rfl, l0, g0⟩ := hK
  exact ⟨ad, A0, c0, e, by have hq := hc 0 _ rfl; rwa [Nat.mul_one, Nat.add_zero] at hq, l0, g0⟩
structure S51 where
  f0 : Int
  f1 : Int
  f2 : (List S116)
  f3 : (List S116)
def z51 : S51 := ⟨(0 : Int), (0 : Int), ([] : List S116), ([] : List S116)⟩
def k51 : Kd S51 := Kd.iso (Kd.pair (Kd.int .i64) (Kd.pair (Kd.int .i64) (Kd.pair (Kd.slice 116 k116) (Kd.slice 116 k116)))) (fun x : S51 => (x.f0, x.f1, x.f2, x.f3))
theorem k51_open {w : World} {x : S51} {cs : List Value} (h : k51.K w x cs) : ∃ A2 c2 A3 c3, cs = [.int .i64 x.f0, .int .i64 x.f1, .slice A2 x.f2.length c2, .slice A3 x.f3.length c3] ∧ x.f2.length ≤ c2 ∧ k116.C w A2 x.f2.length x.f2 ∧ x.f3.length ≤ c3 ∧ k116.C w A3 x.f3.length x.f3 := by
  obtain ⟨_, _, rfl, rfl, ⟨_, _, rfl, rfl, ⟨_, _, rfl, ⟨A2, c2, rfl, l2, g2⟩, ⟨A3, c3, rfl, l3, g3⟩⟩⟩⟩ := h
  exact ⟨A2, c2, A3, c3, rfl, l2, g2, l3, g3⟩
theorem k51_mk (w : World) (x : S51) {A2 : Option Addr} {c2 : Nat} (l2 : x.f2.length ≤ c2) (g2 : k116.C w A2 x.f2.length x.f2) {A3 : Option Addr} {c3 : Nat} (l3 : x.f3.length ≤ c3) (g3 : k116.C w A3 x.f3.length x.f3) : k51.K w x [.int .i64 x.f0, .int .i64 x.f1, .slice A2 x.f2.length c2, .slice A3 x.f3.length c3] := ⟨[.int .i64 x.f0], [.int .i64 x.f1, .slice A2 x.f2.length c2, .slice A3 x.f3.length c3], rfl, rfl, ⟨[.int .i64 x.f1], [.slice A2 x.f2.length c2, .slice A3 x.f3.length c3], rfl, rfl, ⟨[.slice A2 x.f2.length c2], [.slice A3 x.f3.length c3], rfl, ⟨A2, c2, rfl, l2, g2⟩, ⟨A3, c3, rfl, l3, g3⟩⟩⟩⟩
theorem k51_mkF (W : World) (ok : Nat → Prop) (x : S51) {A2 : Option Addr} {c2 : Nat} (l2 : x.f2.length ≤ c2) (g2 : Kd.F k116 W ok A2 x.f2.length x.f2) {A3 : Option Addr} {c3 : Nat} (l3 : x.f3.length ≤ c3) (g3 : Kd.F k116 W ok A3 x.f3.length x.f3) : Kd.FK k51 W ok x [.int .i64 x.f0, .int .i64 x.f1, .slice A2 x.f2.length c2, .slice A3 x.f3.length c3] := fun W2 hW => k51_mk W2 x l2 (g2 W2 hW) l3 (g3 W2 hW)
def rd_T51 (xs : List S51) (i : Int) : S51 := xs.getD i.toNat z51
theorem at_T51 {w : World} {A : Option Addr} {n : Nat} {xs : List S51} (h : Kd.C k51 w A n xs) (i : Int) (h0 : 0 ≤ i) (h1 : i < n) : ∃ ad A2 c2 A3 c3, A = some ad ∧ w.cell? (ad.add (i.toNat * 4)) = some (.int .i64 (rd_T51 xs i).f0) ∧ w.cell? ⟨(ad.add (i.toNat * 4)).block, (ad.add (i.toNat * 4)).off + 1, none⟩ = some (.int .i64 (rd_T51 xs i).f1) ∧ w.cell? ⟨(ad.add (i.toNat * 4)).block, (ad.add (i.toNat * 4)).off + 2, none⟩ = some (.slice A2 (rd_T51 xs i).f2.length c2) ∧ w.cell? ⟨(ad.add (i.toNat * 4)).block, (ad.add (i.toNat * 4)).off + 3, none⟩ = some (.slice A3 (rd_T51 xs i).f3.length c3) ∧ (rd_T51 xs i).f2.length ≤ c2 ∧ k116.C w A2 (rd_T51 xs i).f2.length (rd_T51 xs i).f2 ∧ (rd_T51 xs i).f3.length ≤ c3 ∧ k116.C w A3 (rd_T51 xs i).f3.length (rd_T51 xs i).f3 := by
  obtain ⟨ad, c, e, _, hK, hc0⟩ := Kd.C_get h z51 i h0 h1
  have hc : ∀ j u, c[j]? = some u → w.cell? (ad.add (i.toNat * 4 + j)) = some u := hc0
  obtain ⟨A2, c2, A3, c3, rfl, l2, g2, l3, g3⟩ := k51_open hK
  exact ⟨ad, A2, c2, A3, c3, e, hc 0 _ rfl, by rw [← add_field _ _ 1 (by omega)]; exact hc 1 _ rfl, by rw [← add_field _ _ 2 (by omega)]; exact hc 2 _ rfl, by rw [← add_field _ _ 3 (by omega)]; exact hc 3 _ rfl, l2, g2, l3, g3⟩
def rd_L23 (xs : List (List S51)) (i : Int) : (List S51) := xs.getD i.toNat ([] : List S51)
theorem at_L23 {w : World} {A : Option Addr} {n : Nat} {xs : List (List S51)} (h : Kd.C (Kd.slice 51 k51) w A n xs) (i : Int) (h0 : 0 ≤ i) (h1 : i < n) : ∃ ad A0 c0, A = some ad ∧ w.cell? (ad.add i.toNat) = some (.slice A0 (rd_L23 xs i).length c0) ∧ (rd_L23 xs i).length ≤ c0 ∧ k51.C w A0 (rd_L23 xs i).length (rd_L23 xs i) := by
  obtain ⟨ad, c, e, _, hK, hc0⟩ := Kd.C_get h ([] : List S51) i h0 h1
  have hc : ∀ j u, c[j]? = some u → w.cell? (ad.add (i.toNat * 1 + j)) = some u := hc0
  obtain ⟨A0, c0, rfl, l0, g0⟩ := hK
  exact ⟨ad, A0, c0, e, by have hq := hc 0 _ rfl; rwa [Nat.mul_one, Nat.add_zero] at hq, l0, g0⟩
structure S32 where
  f0 : (List Bool)
  f1 : (List Int)
  f2 : (List (List S51))
structure S41 where
  f0 : Bool
  f1 : Int
  f2 : Int
  f3 : Int
def z41 : S41 := ⟨false, (0 : Int), (0 : Int), (0 : Int)⟩
def k41 : Kd S41 := Kd.iso (Kd.pair Kd.bool (Kd.pair (Kd.int .i64) (Kd.pair (Kd.int .i64) (Kd.int .u8)))) (fun x : S41 => (x.f0, x.f1, x.f2, x.f3))
theorem k41_open {w : World} {x : S41} {cs : List Value} (h : k41.K w x cs) : cs = [.bool x.f0, .int .i64 x.f1, .int .i64 x.f2, .int .u8 x.f3] := by
  obtain ⟨_, _, rfl, rfl, ⟨_, _, rfl, rfl, ⟨_, _, rfl, rfl, rfl⟩⟩⟩ := h
  exact rfl
theorem k41_openM {w : World} {base : Nat} {ok : Nat → Prop} {x : S41} {cs : List Value} (h : k41.M w base ok x cs) : cs = [.bool x.f0, .int .i64 x.f1, .int .i64 x.f2, .int .u8 x.f3] := by
  obtain ⟨_, _, rfl, rfl, ⟨_, _, rfl, rfl, ⟨_, _, rfl, rfl, rfl⟩⟩⟩ := h
  exact rfl
theorem k41_mkM (w : World) (base : Nat) (ok : Nat → Prop) (x : S41)  : k41.M w base ok x [.bool x.f0, .int .i64 x.f1, .int .i64 x.f2, .int .u8 x.f3] := ⟨[.bool x.f0], [.int .i64 x.f1, .int .i64 x.f2, .int .u8 x.f3], rfl, rfl, ⟨[.int .i64 x.f1], [.int .i64 x.f2, .int .u8 x.f3], rfl, rfl, ⟨[.int .i64 x.f2], [.int .u8 x.f3], rfl, rfl, rfl⟩⟩⟩
def rd_T41 (xs : List S41) (i : Int) : S41 := xs.getD i.toNat z41
theorem at_T41 {w : World} {A : Option Addr} {n : Nat} {xs : List S41} (h : Kd.C k41 w A n xs) (i : Int) (h0 : 0 ≤ i) (h1 : i < n) : ∃ ad , A = some ad ∧ w.cell? (ad.add (i.toNat * 4)) = some (.bool (rd_T41 xs i).f0) ∧ w.cell? ⟨(ad.add (i.toNat * 4)).block, (ad.add (i.toNat * 4)).off + 1, none⟩ = some (.int .i64 (rd_T41 xs i).f1) ∧ w.cell? ⟨(ad.add (i.toNat * 4)).block, (ad.add (i.toNat * 4)).off + 2, none⟩ = some (.int .i64 (rd_T41 xs i).f2) ∧ w.cell? ⟨(ad.add (i.toNat * 4)).block, (ad.add (i.toNat * 4)).off + 3, none⟩ = some (.int .u8 (rd_T41 xs i).f3) := by
  obtain ⟨ad, c, e, _, hK, hc0⟩ := Kd.C_get h z41 i h0 h1
  have hc : ∀ j u, c[j]? = some u → w.cell? (ad.add (i.toNat * 4 + j)) = some u := hc0
  obtain rfl := k41_open hK
  exact ⟨ad, e, hc 0 _ rfl, by rw [← add_field _ _ 1 (by omega)]; exact hc 1 _ rfl, by rw [← add_field _ _ 2 (by omega)]; exact hc 2 _ rfl, by rw [← add_field _ _ 3 (by omega)]; exact hc 3 _ rfl⟩
structure S61 where
  f0 : Bool
  f1 : Bool
  f2 : (List Int)
def z61 : S61 := ⟨false, false, ([] : List Int)⟩
def k61 : Kd S61 := Kd.iso (Kd.pair Kd.bool (Kd.pair Kd.bool (Kd.slice 3 (Kd.int .i64)))) (fun x : S61 => (x.f0, x.f1, x.f2))
theorem k61_open {w : World} {x : S61} {cs : List Value} (h : k61.K w x cs) : ∃ A2 c2, cs = [.bool x.f0, .bool x.f1, .slice A2 x.f2.length c2] ∧ x.f2.length ≤ c2 ∧ (Kd.int .i64).C w A2 x.f2.length x.f2 := by
  obtain ⟨_, _, rfl, rfl, ⟨_, _, rfl, rfl, ⟨A2, c2, rfl, l2, g2⟩⟩⟩ := h
  exact ⟨A2, c2, rfl, l2, g2⟩
theorem k61_mk (w : World) (x : S61) {A2 : Option Addr} {c2 : Nat} (l2 : x.f2.length ≤ c2) (g2 : (Kd.int .i64).C w A2 x.f2.length x.f2) : k61.K w x [.bool x.f0, .bool x.f1, .slice A2 x.f2.length c2] := ⟨[.bool x.f0], [.bool x.f1, .slice A2 x.f2.length c2], rfl, rfl, ⟨[.bool x.f1], [.slice A2 x.f2.length c2], rfl, rfl, ⟨A2, c2, rfl, l2, g2⟩⟩⟩
theorem k61_mkM (w : World) (base : Nat) (ok : Nat → Prop) (x : S61) {v2 : Value} (g2 : (Kd.int .i64).R 3 w base ok v2 x.f2) : k61.M w base ok x [.bool x.f0, .bool x.f1, v2] := ⟨[.bool x.f0], [.bool x.f1, v2], rfl, rfl, ⟨[.bool x.f1], [v2], rfl, rfl, ⟨v2, rfl, g2⟩⟩⟩
theorem k61_openF {W : World} {ok : Nat → Prop} {x : S61} {cs : List Value} (h : Kd.FK k61 W ok x cs) : ∃ A2 c2, cs = [.bool x.f0, .bool x.f1, .slice A2 x.f2.length c2] ∧ x.f2.length ≤ c2 ∧ Kd.F (Kd.int .i64) W ok A2 x.f2.length x.f2 := by
  obtain ⟨A2, c2, rfl, l2, _⟩ := k61_open (Kd.FK_now h)
  exact ⟨A2, c2, rfl, l2, (fun W' hW => by obtain ⟨A2_, c2_, he, l2_, g2_⟩ := k61_open (h W' hW); injection (Option.some.inj (show some (Value.slice A2 x.f2.length c2) = some (Value.slice A2_ x.f2.length c2_) from congrArg (fun l => l[2]?) he)) with ha_ _ _; rw [ha_]; exact g2_)⟩
theorem k61_mkF (W : World) (ok : Nat → Prop) (x : S61) {A2 : Option Addr} {c2 : Nat} (l2 : x.f2.length ≤ c2) (g2 : Kd.F (Kd.int .i64) W ok A2 x.f2.length x.f2) : Kd.FK k61 W ok x [.bool x.f0, .bool x.f1, .slice A2 x.f2.length c2] := fun W2 hW => k61_mk W2 x l2 (g2 W2 hW)
def rd_T61 (xs : List S61) (i : Int) : S61 := xs.getD i.toNat z61
theorem at_T61 {w : World} {A : Option Addr} {n : Nat} {xs : List S61} (h : Kd.C k61 w A n xs) (i : Int) (h0 : 0 ≤ i) (h1 : i < n) : ∃ ad A2 c2, A = some ad ∧ w.cell? (ad.add (i.toNat * 3)) = some (.bool (rd_T61 xs i).f0) ∧ w.cell? ⟨(ad.add (i.toNat * 3)).block, (ad.add (i.toNat * 3)).off + 1, none⟩ = some (.bool (rd_T61 xs i).f1) ∧ w.cell? ⟨(ad.add (i.toNat * 3)).block, (ad.add (i.toNat * 3)).off + 2, none⟩ = some (.slice A2 (rd_T61 xs i).f2.length c2) ∧ (rd_T61 xs i).f2.length ≤ c2 ∧ (Kd.int .i64).C w A2 (rd_T61 xs i).f2.length (rd_T61 xs i).f2 := by
  obtain ⟨ad, c, e, _, hK, hc0⟩ := Kd.C_get h z61 i h0 h1
  have hc : ∀ j u, c[j]? = some u → w.cell? (ad.add (i.toNat * 3 + j)) = some u := hc0
  obtain ⟨A2, c2, rfl, l2, g2⟩ := k61_open hK
  exact ⟨ad, A2, c2, e, hc 0 _ rfl, by rw [← add_field _ _ 1 (by omega)]; exact hc 1 _ rfl, by rw [← add_field _ _ 2 (by omega)]; exact hc 2 _ rfl, l2, g2⟩
end Go.Proofs.Ytcagkdgpoijkoaa.PLf
end
section
namespace Go.Proofs.Ytcagkdgpoijkoaa.PLf
open Go.RowKit Go.Proofs.Ytcagkdgpoijkoaa.Short Go.Proofs.YtcagkdgpoijkoaaW.PrintWords Go.Proofs.YtcagkdgpoijkoaaW.PrintLast Go.Proofs.YtcagkdgpoijkoaaW.PrintMore
attribute [local go_sem] max2_int min2_int max_two min_two max_three min_three max_four min_four
set_option linter.unusedVariables false
set_option linter.unusedSimpArgs false
def maquettelaw05_Make.l0 : Nat → Int → Int → Int → Option (Int × Int)
 | 0, _, _, _ => none
 | k + 1, x5, x107000, x107001 => if x5 < 32 then (if 0 ≤ (wrap64 (31 - x5)) then (maquettelaw05_Make.l0 k (wrap64 (x5 + 1)) (Go.bits .andNot .u32 x107000 (shl .u32 1 (wrap64 (31 - x5)))) x107001) else (none)) else (some (x107000, x107001))
def maquettelaw05_Make.f (k : Nat) (a0 : Int) : Option (Int × Int) := (some (([0, 8, 16, 24, 32, 9, 17, 30] : List Int) : List Int)).bind fun y102 => (if 0 ≤ (Int.tmod a0 8) then (if (Int.tmod a0 8) < (y102.length : Int) then (maquettelaw05_Make.l0 k (rd y102 (Int.tmod a0 8)) (((167772160 + (((Int.tdiv a0 64) % 256) * 65536)) + ((((Int.tdiv a0 16) % 256) % 4) * 256)) + (((Int.tdiv a0 8) % 256) % 2)) (rd y102 (Int.tmod a0 8))) else (none)) else (none))
theorem maquettelaw05_Make.mono_l : ∀ k, (∀ y0 y1 y2, LeO (maquettelaw05_Make.l0 k y0 y1 y2) (maquettelaw05_Make.l0 (k + 1) y0 y1 y2))
 | 0 => fun _ _ _ r h => by simp [maquettelaw05_Make.l0] at h
 | k + 1 => by
  have ih0 := maquettelaw05_Make.mono_l k
  ·intro y0 y1 y2
   unfold maquettelaw05_Make.l0; repeat' first
   | (with_reducible exact ih0 _ _ _)
   | (with_reducible exact LeO.refl _)
   | (with_reducible exact LeO.none _)
   | (with_reducible refine LeO.ite ?_ ?_)
   | (with_reducible refine LeO.bind ?_ (fun _ => ?_))
   | exact ih0 _ _ _
   | exact LeO.none _
   | refine LeO.ite ?_ ?_
   | refine LeO.bind ?_ (fun _ => ?_)
theorem maquettelaw05_Make.mono : ∀ a0 k, LeO (maquettelaw05_Make.f k a0) (maquettelaw05_Make.f (k + 1) a0) := by
 intro a0 k; have ih0 := maquettelaw05_Make.mono_l k; unfold maquettelaw05_Make.f
 repeat' first
   | (with_reducible exact ih0 _ _ _)
   | (with_reducible exact LeO.refl _)
   | (with_reducible exact LeO.none _)
   | (with_reducible refine LeO.ite ?_ ?_)
   | (with_reducible refine LeO.bind ?_ (fun _ => ?_))
   | exact ih0 _ _ _
   | exact LeO.none _
   | refine LeO.ite ?_ ?_
   | refine LeO.bind ?_ (fun _ => ?_)
def maquettelaw05_Make.T6 : Bool × List (List Nat × List Nat) := (true, [([], []), ([0], [0]), ([], []), ([2], [2]), ([3], [3]), ([1, 4], [1, 4]), ([0, 1, 2, 3, 4, 5], []), ([6, 5, 0, 1, 2, 3, 4, 5], [5, 6])])
def maquettelaw05_Make.B6 : List Nat := [0, 1, 0, 4, 12, 31, 63, 127]
theorem maquettelaw05_Make.tab6 : rtab .any (opsOf Try.f34 6) = maquettelaw05_Make.T6 := by kernel_rfl
theorem maquettelaw05_Make.bits6 : waitsOk maquettelaw05_Make.T6.2 maquettelaw05_Make.B6 = true := by kernel_rfl
set_option maxHeartbeats 8000000 in
set_option maxRecDepth 100000 in
theorem maquettelaw05_Make.calls (k : Nat) (a0 : Int) (r1 : Int) (r2 : Int) (w : World) (h : maquettelaw05_Make.f k a0 = some (r1, r2)) :
  Calls Try.prog 34 #[.int .u8 a0] w fun e w' => e = .returned (.agg #[.int .u32 r1, .int .i64 r2]) ∧ Below w.heap.size w w' := by
 have hu35 := Try.underlying35; have HB := A_ (Below.refl w.heap.size w); unfold maquettelaw05_Make.f at h; have H := h; clear h; obtain ⟨y102, hy102⟩ : ∃ y_ : List Int, y_ = (([0, 8, 16, 24, 32, 9, 17, 30] : List Int)) := ⟨_, rfl⟩; (first | rw [← hy102] at H | (have H2_ := (Option.bind_some _ _).symm.trans H; clear H; have H := H2_; clear H2_; (try rw [← hy102] at H))); have Ny102 := A_ hy102; clear hy102; obtain ⟨ji2, hji2⟩ : ∃ j_ : Int, (Int.tmod a0 8) = j_ := ⟨_, rfl⟩; (replace H : (if 0 ≤ (ji2) then (if (ji2) < (y102.length : Int) then (maquettelaw05_Make.l0 k (rd y102 (ji2)) (((167772160 + (((Int.tdiv a0 64) % 256) * 65536)) + ((((Int.tdiv a0 16) % 256) % 4) * 256)) + (((Int.tdiv a0 8) % 256) % 2)) (rd y102 (ji2))) else (none)) else (none)) = some (r1, r2) := by first | (rw [hji2] at H; exact H) | (simp only [hji2] at H ⊢; exact H)); by_cases c3 : 0 ≤ (ji2)
 ·rw [if_pos c3] at H
  have c3b0 := decide_eq_true c3; clear c3; by_cases c4 : (ji2) < (y102.length : Int)
  ·rw [if_pos c4] at H
   have c4b0 := decide_eq_true c4; clear c4; have H' := A_ H; clear H; go_enter Try.func34, Try.ntmps34; go_wp2_with (first | ((with_reducible refine gate_dst (N := 2) rfl ?_); refine bx 2 (cs := #[.int .u32 0, .int .i64 0]) (t := 35) (h := ?_); intro gb101 hg w5 hbox hb; have BK101 := A_ hbox; have GW101 : Aside0 (w.heap.size ≤ gb101) := bge hg; replace HB := bst hb; clear hb hbox hg) | ((with_reducible refine gate_dst (N := 6) rfl ?_); refine Kd.R_lit (Kd.int .i64) _ 3 ?hg (N := 6) ?hd (xs := ([0, 8, 16, 24, 32, 9, 17, 30] : List Int)) (inner := [.int .i64 0, .int .i64 8, .int .i64 16, .int .i64 24, .int .i64 32, .int .i64 9, .int .i64 17, .int .i64 30]) (ok := fun _ => True) (okp := fun _ => True) ?hr ?hp (fun _ hk => hk) trivial (Below.refl _ _) (Nat.le_refl _) (by simp) ?_; (case hd => rfl); (case hg => rfl); (case hr => first | (go_simp; done) | (go_simp; rfl)); (case hp => exact (Reps.one (show Kd.M (Kd.int .i64) _ _ _ 0 [.int .i64 0] from rfl) (Reps.one (show Kd.M (Kd.int .i64) _ _ _ 8 [.int .i64 8] from rfl) (Reps.one (show Kd.M (Kd.int .i64) _ _ _ 16 [.int .i64 16] from rfl) (Reps.one (show Kd.M (Kd.int .i64) _ _ _ 24 [.int .i64 24] from rfl) (Reps.one (show Kd.M (Kd.int .i64) _ _ _ 32 [.int .i64 32] from rfl) (Reps.one (show Kd.M (Kd.int .i64) _ _ _ 9 [.int .i64 9] from rfl) (Reps.one (show Kd.M (Kd.int .i64) _ _ _ 17 [.int .i64 17] from rfl) (Reps.one (show Kd.M (Kd.int .i64) _ _ _ 30 [.int .i64 30] from rfl) (Reps.none _ _)))))))))); intro v103 w6 ho7 hb hg_ hnew_; clear hg_ hnew_; (first | rw [← Ny102.out] at ho7 | (simp only [Int.reduceToNat] at ho7; rw [← Ny102.out] at ho7)); have HO104 := A_ (Kd.R_lower ho7 (below_size bel)); replace BK101 := bkb BK101 hb; replace HB := bst hb; clear hb ho7; obtain ⟨Ao8, co8, eo8⟩ := Kd.R_slice HO104.out; subst eo8; have p105 : 0 ≤ ((ji2) : Int) := odt; have q105 : (ji2) < (y102.length : Int) := odt; obtain ⟨ad105, e105, hx105_0⟩ := Kd.at_int (Kd.R_reads' HO104.out).2.2 (ji2) p105 q105; cases e105; replace p105 := eq_true p105; replace q105 := eq_true q105) | ((with_reducible refine gate_dst (N := 4) rfl ?_); refine bx 4 (cs := #[.int .u32 0, .int .i64 0]) (t := 35) (h := ?_); intro gb106 hg w9 hbox hb; have BK106 := A_ hbox; have GW106 : Aside0 (w.heap.size ≤ gb106) := bge hg; have NB101_106 := bne BK101 hg; have NB106_101 := bnf BK101 hg; replace HO104 := A_ (Kd.R_below (kR HO104) hb); replace BK101 := bkb BK101 hb; replace HB := bst hb; clear hb hbox hg; have hnb10 := NB106_101.out; have hnc10 := NB101_106.out; have hcz11 := bc2 BK106)); go_loopg [5] k (fun kq v5 w' => ∃ (x5_1 : Int) (x107000_1 : Int), v5 = .int .i64 x5_1 ∧ Aside0 (maquettelaw05_Make.l0 kq x5_1 x107000_1 (rd y102 (ji2)) = some (r1, r2)) ∧ Aside0 (kq ≤ k) ∧ Aside0 (w'.heap[gb101]? = some (.cells #[.int .u32 0, .int .i64 0] 35 (0, 0))) ∧ Aside0 (w'.heap[gb106]? = some (.cells #[.int .u32 x107000_1, .int .i64 (rd y102 (ji2))] 35 (0, 0))) ∧ Aside0 (Below w.heap.size w w'))
   case atStart => exact ⟨(rd y102 (ji2)), (((167772160 + (((Int.tdiv a0 64) % 256) * 65536)) + ((((Int.tdiv a0 16) % 256) % 4) * 256)) + (((Int.tdiv a0 8) % 256) % 2)), (by first | rfl | (simp; done) | (simp only [← hji2] <;> (first | rfl | simp)) | (simp [*]; done)), H', ⟨Nat.le_refl _⟩, ⟨bkq BK101⟩, ⟨bkp BK106⟩, ⟨bel⟩⟩
   case round =>
    clear H'; (try clear c1); (try clear p1); (try clear q1); (try clear hx1); (try clear p2); (try clear c3); (try clear c3b0); (try clear c4); (try clear c4b0); (try clear c10); (try clear p10); (try clear q10); (try clear hx10); (try clear hcz11); (try clear hx105_0); (try clear p105); (try clear q105); obtain ⟨x5_1, x107000_1, rfl, HA, HK1, BK101, BK106, HB⟩ := hrel
    cases gk with
    | zero => exact absurd HA.out (by simp [maquettelaw05_Make.l0])
    | succ k1 =>
     have H := HA.out; clear HA; simp only [maquettelaw05_Make.l0] at H; by_cases c12 : x5_1 < 32
     ·rw [if_pos c12] at H
      have c12b0 := decide_eq_true c12; clear c12; obtain ⟨ji13, hji13⟩ : ∃ j_ : Int, (wrap64 (31 - x5_1)) = j_ := ⟨_, rfl⟩; (replace H : (if 0 ≤ (ji13) then (maquettelaw05_Make.l0 k1 (wrap64 (x5_1 + 1)) (Go.bits .andNot .u32 x107000_1 (shl .u32 1 (ji13))) (rd y102 (ji2))) else (none)) = some (r1, r2) := by first | (rw [hji13] at H; exact H) | (simp only [hji13] at H ⊢; exact H)); have hji13w : (IntKind.i64.wrap (31 - x5_1)) = ji13 := (i64_w _).trans hji13; by_cases c14 : 0 ≤ (ji13)
      ·rw [if_pos c14] at H
       have c14b0 := eq_true c14; have c14b1 := decide_eq_true c14; clear c14; obtain ⟨ji15, hji15⟩ : ∃ j_ : Int, (shl .u32 1 (ji13)) = j_ := ⟨_, rfl⟩; (replace H : (maquettelaw05_Make.l0 k1 (wrap64 (x5_1 + 1)) (Go.bits .andNot .u32 x107000_1 (ji15)) (rd y102 (ji2))) = some (r1, r2) := by first | (rw [hji15] at H; exact H) | (simp only [hji15] at H ⊢; exact H)); have hji15_ : (IntKind.u32.wrap (1 * 2 ^ min (ji13).toNat 32)) = ji15 := hji15; have hji15z : (ji13) ≤ 32 → (IntKind.u32.wrap (1 * 2 ^ (ji13).toNat)) = ji15 := shl_small hji15; (have hji15u : (IntKind.u32.wrap (2 ^ min (ji13).toNat 32)) = ji15 := by have h_ := hji15_; rw [Int.one_mul] at h_; exact h_); (have hji15v : (ji13) ≤ 32 → (IntKind.u32.wrap (2 ^ (ji13).toNat)) = ji15 := fun hle_ => by have h_ := hji15z hle_; rw [Int.one_mul] at h_; exact h_); have H' := A_ H; clear H; (try go_wp2); replace BK101 := A_ (blk_drew BK101.out); replace BK106 := A_ (blk_drew BK106.out); replace HB := A_ (below_drew1 HB.out); refine start_ (n := 8) (S := fun w' => CE2 w' gb106 (.int .u32 x107000_1) (.int .i64 (rd y102 (ji2)))) (ds := [7]) #[false, false, false, false, false, false, false, false] (by kernel_rfl) rfl rfl (he2 BK106) (fun hHeld => ?_); refine with_tabW maquettelaw05_Make.tab6 maquettelaw05_Make.bits6 (fun HT_ HW_ => ?_); generalize wr.drew = w16 at BK101 BK106 HB hHeld ⊢; refine pu HT_ 0 (some 34) (mk 8 1) ?_; refine pu HT_ 2 (some 36) (mk 8 5) ?_; refine pu HT_ 3 (some 37) (mk 8 13) ?_; refine pu HT_ 4 (some 38) (mk 8 29) ?_; refine tk HT_ HW_ 1 (some 35) (mk 8 31) hHeld ?_; refine pu HT_ 5 (some 39) (mk 8 63) ?_; refine pu HT_ 6 (some 40) (mk 8 127) ?_; (refine la HT_ 7 (none) (mk 8 255) fun K hK => ?_); have hs17 : w16.cell? ⟨gb106, 0, none⟩ = some (.int .u32 x107000_1) := (blk_cell BK106.out 0).trans rfl; have hfs17 := blk_frozen BK106.out 0; have hns17_0 := NB101_106.out; have hms17_0 := NB106_101.out; refine skip_ (w1 := ?_) (by rfl) rfl ?_ ?_; rotate_left
       ·go_simp
        rfl
       refine hK.out _ _ ?_; clear hK K; refine done_ (done_of HT_.out (by kernel_rfl)) ?_; (try go_wp2); go_roundg k1
       case measure => have := HK1.out; omega
       case rel => exact ⟨(wrap64 (x5_1 + 1)), (Go.bits .andNot .u32 x107000_1 (ji15)), eqs, H', ⟨by have := HK1.out; omega⟩, ⟨bkq BK101⟩, ⟨bkp BK106⟩, ⟨bel⟩⟩
      ·rw [if_neg c14] at H
       exact absurd H (by simp)
     ·rw [if_neg c12] at H
      have c12b0 := decide_eq_false c12; clear c12; simp only [Option.some.injEq, Prod.mk.injEq] at H; obtain ⟨rfl, rfl⟩ := H; have hnb18 := NB106_101.out; have hnc18 := NB101_106.out; have hcz19 := bc2 BK106; have hcz20 := bc2 BK101; go_wp2; refine bodyPost_ret (results_cell_row rfl _ _ gb101 35 #[.int .u32 x107000_1, .int .i64 (rd y102 (ji2))] (0, 0) _ rfl (bkp BK101) Try.underlying35 rfl (by kernel_rfl)) rfl ?_; exact ⟨by first | rfl | (simp [errW_none, errW_some] <;> rfl) | (simp only [← hji2]; first | rfl | (simp [errW_none, errW_some] <;> rfl)) | (simp [*, errW_none, errW_some] <;> rfl), bel⟩
  ·rw [if_neg c4] at H
   exact absurd H (by simp)
 ·rw [if_neg c3] at H
  exact absurd H (by simp)
mutual
def maquettelaw07_Rule_Clause.j0 : Nat → Int → Int → Int → Int → Int → Int → Bool → Int → Int → Int → Int → Bool → Int → Int → Int → Int → Option (Bool × Int × Int × Int × Int × Bool × Int × Int × Int × Int)
 | 0, _, _, _, _, _, _, _, _, _, _, _, _, _, _, _, _ => none
 | k + 1, x108000, x108001, x108002, x108003, x108004, x108005, x110000, x110001, x110002, x110003, x110004, x110005, x110006, x110007, x110008, x110009 => if x108002 > 60 then (maquettelaw07_Rule_Clause.j1 k x108000 x108001 x108002 x108003 x108004 x108005 x110000 x110001 x110002 x110003 0 x110005 x110006 x110007 x110008 x110009) else (maquettelaw07_Rule_Clause.j1 k x108000 x108001 x108002 x108003 x108004 x108005 x110000 x110001 x110002 x110003 x110004 x110005 x110006 x110007 x110008 x110009)
def maquettelaw07_Rule_Clause.j1 : Nat → Int → Int → Int → Int → Int → Int → Bool → Int → Int → Int → Int → Bool → Int → Int → Int → Int → Option (Bool × Int × Int × Int × Int × Bool × Int × Int × Int × Int)
 | 0, _, _, _, _, _, _, _, _, _, _, _, _, _, _, _, _ => none
 | k + 1, x108000, x108001, x108002, x108003, x108004, x108005, x110000, x110001, x110002, x110003, x110004, x110005, x110006, x110007, x110008, x110009 => if x108005 < 200 then (if x110000 = true then (some (x110000, x110001, x110002, x110003, x110004, x110005, x110006, x110007, x110008, 0)) else ((maquettelaw05_Make.f k x108000).bind fun bt110 => (some (x110000, bt110.1, bt110.2, x110003, x110004, x110005, x110006, x110007, x110008, 0)))) else (if x110000 = true then (some (x110000, x110001, x110002, x110003, x110004, x110005, x110006, x110007, x110008, x110009)) else ((maquettelaw05_Make.f k x108000).bind fun bt112 => (some (x110000, bt112.1, bt112.2, x110003, x110004, x110005, x110006, x110007, x110008, x110009))))
end
def maquettelaw07_Rule_Clause.f (k : Nat) (a0_0 : Int) (a0_1 : Int) (a0_2 : Int) (a0_3 : Int) (a0_4 : Int) (a0_5 : Int) : Option (Bool × Int × Int × Int × Int × Bool × Int × Int × Int × Int) := if a0_1 > 100 then (maquettelaw07_Rule_Clause.j0 k a0_0 a0_1 a0_2 a0_3 a0_4 a0_5 ((Int.tmod a0_0 3) == 0) 0 0 0 (Int.tmod a0_2 16) ((Int.tmod a0_3 4) == 3) ((Int.tdiv a0_3 16) % 256) ((Int.tdiv a0_4 16) % 256) (wrap64 (Int.tmod a0_4 4)) (wrap64 (a0_5))) else (maquettelaw07_Rule_Clause.j0 k a0_0 a0_1 a0_2 a0_3 a0_4 a0_5 ((Int.tmod a0_0 3) == 0) 0 0 (Int.tmod a0_1 16) (Int.tmod a0_2 16) ((Int.tmod a0_3 4) == 3) ((Int.tdiv a0_3 16) % 256) ((Int.tdiv a0_4 16) % 256) (wrap64 (Int.tmod a0_4 4)) (wrap64 (a0_5)))
theorem maquettelaw07_Rule_Clause.mono_l : ∀ k, (∀ y0 y1 y2 y3 y4 y5 y6 y7 y8 y9 y10 y11 y12 y13 y14 y15, LeO (maquettelaw07_Rule_Clause.j0 k y0 y1 y2 y3 y4 y5 y6 y7 y8 y9 y10 y11 y12 y13 y14 y15) (maquettelaw07_Rule_Clause.j0 (k + 1) y0 y1 y2 y3 y4 y5 y6 y7 y8 y9 y10 y11 y12 y13 y14 y15)) ∧ (∀ y0 y1 y2 y3 y4 y5 y6 y7 y8 y9 y10 y11 y12 y13 y14 y15, LeO (maquettelaw07_Rule_Clause.j1 k y0 y1 y2 y3 y4 y5 y6 y7 y8 y9 y10 y11 y12 y13 y14 y15) (maquettelaw07_Rule_Clause.j1 (k + 1) y0 y1 y2 y3 y4 y5 y6 y7 y8 y9 y10 y11 y12 y13 y14 y15))
 | 0 => ⟨fun _ _ _ _ _ _ _ _ _ _ _ _ _ _ _ _ r h => by simp [maquettelaw07_Rule_Clause.j0] at h, fun _ _ _ _ _ _ _ _ _ _ _ _ _ _ _ _ r h => by simp [maquettelaw07_Rule_Clause.j1] at h⟩
 | k + 1 => by
  obtain ⟨ih0, ih1⟩ := maquettelaw07_Rule_Clause.mono_l k
  refine ⟨?_, ?_⟩<;> intros <;> (first | unfold maquettelaw07_Rule_Clause.j0 | unfold maquettelaw07_Rule_Clause.j1) <;> repeat' first
   | (with_reducible exact ih0 _ _ _ _ _ _ _ _ _ _ _ _ _ _ _ _)
   | (with_reducible exact ih1 _ _ _ _ _ _ _ _ _ _ _ _ _ _ _ _)
   | (with_reducible exact maquettelaw05_Make.mono _ _)
   | (with_reducible exact LeO.refl _)
   | (with_reducible exact LeO.none _)
   | (with_reducible refine LeO.ite ?_ ?_)
   | (with_reducible refine LeO.bind ?_ (fun _ => ?_))
   | exact ih0 _ _ _ _ _ _ _ _ _ _ _ _ _ _ _ _
   | exact ih1 _ _ _ _ _ _ _ _ _ _ _ _ _ _ _ _
   | exact maquettelaw05_Make.mono _ _
   | exact LeO.none _
   | refine LeO.ite ?_ ?_
   | refine LeO.bind ?_ (fun _ => ?_)
theorem maquettelaw07_Rule_Clause.mono : ∀ a0 a1 a2 a3 a4 a5 k, LeO (maquettelaw07_Rule_Clause.f k a0 a1 a2 a3 a4 a5) (maquettelaw07_Rule_Clause.f (k + 1) a0 a1 a2 a3 a4 a5) := by
 intro a0 a1 a2 a3 a4 a5 k; obtain ⟨ih0, ih1⟩ := maquettelaw07_Rule_Clause.mono_l k; unfold maquettelaw07_Rule_Clause.f
 repeat' first
   | (with_reducible exact ih0 _ _ _ _ _ _ _ _ _ _ _ _ _ _ _ _)
   | (with_reducible exact ih1 _ _ _ _ _ _ _ _ _ _ _ _ _ _ _ _)
   | (with_reducible exact maquettelaw05_Make.mono _ _)
   | (with_reducible exact LeO.refl _)
   | (with_reducible exact LeO.none _)
   | (with_reducible refine LeO.ite ?_ ?_)
   | (with_reducible refine LeO.bind ?_ (fun _ => ?_))
   | exact ih0 _ _ _ _ _ _ _ _ _ _ _ _ _ _ _ _
   | exact ih1 _ _ _ _ _ _ _ _ _ _ _ _ _ _ _ _
   | exact maquettelaw05_Make.mono _ _
   | exact LeO.none _
   | refine LeO.ite ?_ ?_
   | refine LeO.bind ?_ (fun _ => ?_)
set_option maxHeartbeats 8000000 in
set_option maxRecDepth 100000 in
theorem maquettelaw07_Rule_Clause.calls (k : Nat) (a0_0 : Int) (a0_1 : Int) (a0_2 : Int) (a0_3 : Int) (a0_4 : Int) (a0_5 : Int) (r1 : Bool) (r2 : Int) (r3 : Int) (r4 : Int) (r5 : Int) (r6 : Bool) (r7 : Int) (r8 : Int) (r9 : Int) (r10 : Int) (w : World) (h : maquettelaw07_Rule_Clause.f k a0_0 a0_1 a0_2 a0_3 a0_4 a0_5 = some (r1, r2, r3, r4, r5, r6, r7, r8, r9, r10)) :
  Calls Try.prog 47 #[.agg #[.int .u8 a0_0, .int .u8 a0_1, .int .u8 a0_2, .int .u8 a0_3, .int .u8 a0_4, .int .u8 a0_5]] w fun e w' => e = .returned (.agg #[.bool r1, .int .u32 r2, .int .i64 r3, .int .u8 r4, .int .u8 r5, .bool r6, .int .u8 r7, .int .u8 r8, .int .i64 r9, .int .i64 r10]) ∧ Below w.heap.size w w' := by
 have hu114 := Try.underlying114; have hu116 := Try.underlying116; have hu35 := Try.underlying35; have HB := A_ (Below.refl w.heap.size w); unfold maquettelaw07_Rule_Clause.f at h; have H := h; clear h; have HC2 := A_ H; clear H; go_enter Try.func47, Try.ntmps47; go_upto_if 34 with (first | ((with_reducible refine gate_dst (N := 1) rfl ?_); refine bx 1 (cs := #[.int .u8 a0_0, .int .u8 a0_1, .int .u8 a0_2, .int .u8 a0_3, .int .u8 a0_4, .int .u8 a0_5]) (t := 114) (h := ?_); intro gb107 hg w3 hbox hb; have BK107 := A_ hbox; have GW107 : Aside0 (w.heap.size ≤ gb107) := bge hg; replace HB := bst hb; clear hb hbox hg) | ((with_reducible refine gate_dst (N := 2) rfl ?_); refine bx 2 (cs := #[.bool false, .int .u32 0, .int .i64 0, .int .u8 0, .int .u8 0, .bool false, .int .u8 0, .int .u8 0, .int .i64 0, .int .i64 0]) (t := 116) (h := ?_); intro gb108 hg w4 hbox hb; have BK108 := A_ hbox; have GW108 : Aside0 (w.heap.size ≤ gb108) := bge hg; have NB107_108 := bne BK107 hg; have NB108_107 := bnf BK107 hg; replace BK107 := bkb BK107 hb; replace HB := bst hb; clear hb hbox hg; have hnb5 := NB107_108.out; have hnc5 := NB108_107.out; have hcz6 := bc6 BK107) | ((with_reducible refine gate_dst (N := 3) rfl ?_); refine bx 3 (cs := #[.bool false, .int .u32 0, .int .i64 0, .int .u8 0, .int .u8 0, .bool false, .int .u8 0, .int .u8 0, .int .i64 0, .int .i64 0]) (t := 116) (h := ?_); intro gb109 hg w7 hbox hb; have BK109 := A_ hbox; have GW109 : Aside0 (w.heap.size ≤ gb109) := bge hg; have NB107_109 := bne BK107 hg; have NB109_107 := bnf BK107 hg; have NB108_109 := bne BK108 hg; have NB109_108 := bnf BK108 hg; replace BK107 := bkb BK107 hb; replace BK108 := bkb BK108 hb; replace HB := bst hb; clear hb hbox hg; have hnb8 := NB109_107.out; have hnc8 := NB107_109.out; have hnb9 := NB109_108.out; have hnc9 := NB108_109.out; have hcz10 := bc10 BK109; have hcz11 := bc6 BK107)); (try simp only [Act.put, List.setIfInBounds_toArray, List.set_cons_zero, List.set_cons_succ])
 go_cut [] (fun wc => ∃ (kq : Nat) (x110003_1 : Int), Aside0 (maquettelaw07_Rule_Clause.j0 kq a0_0 a0_1 a0_2 a0_3 a0_4 a0_5 ((Int.tmod a0_0 3) == 0) 0 0 x110003_1 (Int.tmod a0_2 16) ((Int.tmod a0_3 4) == 3) ((Int.tdiv a0_3 16) % 256) ((Int.tdiv a0_4 16) % 256) (wrap64 (Int.tmod a0_4 4)) (wrap64 (a0_5)) = some (r1, r2, r3, r4, r5, r6, r7, r8, r9, r10)) ∧ Aside0 (kq ≤ k) ∧ Aside0 (wc.heap[gb107]? = some (.cells #[.int .u8 a0_0, .int .u8 a0_1, .int .u8 a0_2, .int .u8 a0_3, .int .u8 a0_4, .int .u8 a0_5] 114 (0, 0))) ∧ Aside0 (wc.heap[gb108]? = some (.cells #[.bool false, .int .u32 0, .int .i64 0, .int .u8 0, .int .u8 0, .bool false, .int .u8 0, .int .u8 0, .int .i64 0, .int .i64 0] 116 (0, 0))) ∧ Aside0 (wc.heap[gb109]? = some (.cells #[.bool ((Int.tmod a0_0 3) == 0), .int .u32 0, .int .i64 0, .int .u8 x110003_1, .int .u8 (Int.tmod a0_2 16), .bool ((Int.tmod a0_3 4) == 3), .int .u8 ((Int.tdiv a0_3 16) % 256), .int .u8 ((Int.tdiv a0_4 16) % 256), .int .i64 (wrap64 (Int.tmod a0_4 4)), .int .i64 (wrap64 (a0_5))] 116 (0, 0))) ∧ Aside0 (Below w.heap.size w wc))
 case first =>
  have H := HC2.out; clear HC2; by_cases c12 : a0_1 > 100
  ·rw [if_pos c12] at H
   have c12b0 : decide (100 < a0_1) = true := decide_eq_true c12; clear c12; (first | rw [c12b0] | (simp only [i64_w, i32_w]; rw [c12b0]) | skip); have H' := A_ H; clear H; have hnb13 := NB109_107.out; have hnc13 := NB107_109.out; have hnb14 := NB109_108.out; have hnc14 := NB108_109.out; have hcz15 := bc10 BK109; go_wp2; go_meet
   case rel => exact ⟨_, (0), H', ⟨by first | omega | exact Nat.le_refl _⟩, ⟨bkq BK107⟩, ⟨bkq BK108⟩, ⟨bkp BK109⟩, ⟨bel⟩⟩
  ·rw [if_neg c12] at H
   have c12b0 : decide (100 < a0_1) = false := decide_eq_false c12; clear c12; (first | rw [c12b0] | (simp only [i64_w, i32_w]; rw [c12b0]) | skip); have H' := A_ H; clear H; go_wp2; go_meet
   case rel => exact ⟨_, (Int.tmod a0_1 16), H', ⟨by first | omega | exact Nat.le_refl _⟩, ⟨bkq BK107⟩, ⟨bkq BK108⟩, ⟨bkp BK109⟩, ⟨bel⟩⟩
 case rest =>
  clear HC2; (try clear c1); (try clear p2); (try clear c4); (try clear c5); (try clear p6); (try clear c8); (try clear c9); (try clear c12); (try clear c12b0); (try clear c13); (try clear c14); (try clear hcz10); (try clear hcz11); (try clear hcz15); (try clear hcz6); obtain ⟨kq, x110003_1, HA, HJ1, BK107, BK108, BK109, HB⟩ := hcut
  cases kq with
  | zero => exact absurd HA.out (by simp [maquettelaw07_Rule_Clause.j0])
  | succ kj1 =>
   have H := HA.out; clear HA; simp only [maquettelaw07_Rule_Clause.j0] at H; have HC16 := A_ H; clear H; have hnb17 := NB107_108.out; have hnc17 := NB108_107.out; have hnb18 := NB107_109.out; have hnc18 := NB109_107.out; have hcz19 := bc6 BK107; go_upto_if 38 with (fail); go_cut [] (fun wc => ∃ (kq : Nat) (x110004_15 : Int), Aside0 (maquettelaw07_Rule_Clause.j1 kq a0_0 a0_1 a0_2 a0_3 a0_4 a0_5 ((Int.tmod a0_0 3) == 0) 0 0 x110003_1 x110004_15 ((Int.tmod a0_3 4) == 3) ((Int.tdiv a0_3 16) % 256) ((Int.tdiv a0_4 16) % 256) (wrap64 (Int.tmod a0_4 4)) (wrap64 (a0_5)) = some (r1, r2, r3, r4, r5, r6, r7, r8, r9, r10)) ∧ Aside0 (kq ≤ kj1) ∧ Aside0 (wc.heap[gb107]? = some (.cells #[.int .u8 a0_0, .int .u8 a0_1, .int .u8 a0_2, .int .u8 a0_3, .int .u8 a0_4, .int .u8 a0_5] 114 (0, 0))) ∧ Aside0 (wc.heap[gb108]? = some (.cells #[.bool false, .int .u32 0, .int .i64 0, .int .u8 0, .int .u8 0, .bool false, .int .u8 0, .int .u8 0, .int .i64 0, .int .i64 0] 116 (0, 0))) ∧ Aside0 (wc.heap[gb109]? = some (.cells #[.bool ((Int.tmod a0_0 3) == 0), .int .u32 0, .int .i64 0, .int .u8 x110003_1, .int .u8 x110004_15, .bool ((Int.tmod a0_3 4) == 3), .int .u8 ((Int.tdiv a0_3 16) % 256), .int .u8 ((Int.tdiv a0_4 16) % 256), .int .i64 (wrap64 (Int.tmod a0_4 4)), .int .i64 (wrap64 (a0_5))] 116 (0, 0))) ∧ Aside0 (Below w.heap.size w wc))
   case first =>
    have H := HC16.out; clear HC16; by_cases c20 : a0_2 > 60
    ·rw [if_pos c20] at H
     have c20b0 : decide (60 < a0_2) = true := decide_eq_true c20; clear c20; (first | rw [c20b0] | (simp only [i64_w, i32_w]; rw [c20b0]) | skip); have H' := A_ H; clear H; have hnb21 := NB109_107.out; have hnc21 := NB107_109.out; have hnb22 := NB109_108.out; have hnc22 := NB108_109.out; have hcz23 := bc10 BK109; go_wp2; go_meet
     case rel => exact ⟨_, (0), H', ⟨by have := HJ1.out; first | omega | exact Nat.le_refl _⟩, ⟨bkq BK107⟩, ⟨bkq BK108⟩, ⟨bkp BK109⟩, ⟨bel⟩⟩
    ·rw [if_neg c20] at H
     have c20b0 : decide (60 < a0_2) = false := decide_eq_false c20; clear c20; (first | rw [c20b0] | (simp only [i64_w, i32_w]; rw [c20b0]) | skip); have H' := A_ H; clear H; go_wp2; go_meet
     case rel => exact ⟨_, ((Int.tmod a0_2 16)), H', ⟨by have := HJ1.out; first | omega | exact Nat.le_refl _⟩, ⟨bkq BK107⟩, ⟨bkq BK108⟩, ⟨bkq BK109⟩, ⟨bel⟩⟩
   case rest =>
    clear HC16; (try clear c1); (try clear c2); (try clear p2 p2); (try clear c4); (try clear c5); (try clear p6 p6); (try clear c8); (try clear c9); (try clear c12); (try clear c12b0); (try clear c13); (try clear c14); (try clear c17); (try clear c18); (try clear c20); (try clear c20b0); (try clear c21); (try clear c22); (try clear hcz10); (try clear hcz11); (try clear hcz15); (try clear hcz19); (try clear hcz23); (try clear hcz6); obtain ⟨kq, x110004_15, HA, HJ15, BK107, BK108, BK109, HB⟩ := hcut
    cases kq with
    | zero => exact absurd HA.out (by simp [maquettelaw07_Rule_Clause.j1])
    | succ kj15 =>
     have H := HA.out; clear HA; simp only [maquettelaw07_Rule_Clause.j1] at H; by_cases c24 : a0_5 < 200
     ·rw [if_pos c24] at H
      have c24b0 := decide_eq_true c24; clear c24; by_cases c25 : ((Int.tmod a0_0 3) == 0) = true
      ·rw [if_pos c25] at H
       have c25b0 : ((Int.tmod a0_0 3) == 0) = true := c25; (try (have c25b1 : decide ((Int.tmod a0_0 3) = 0) = true := by simpa using c25)); (try (have c25b2 : ((Int.tmod a0_0 3) == 0) = true := by simpa using c25)); clear c25; simp only [Option.some.injEq, Prod.mk.injEq] at H; obtain ⟨rfl, rfl, rfl, rfl, rfl, rfl, rfl, rfl, rfl, rfl⟩ := H; have hnb26 := NB107_108.out; have hnc26 := NB108_107.out; have hnb27 := NB107_109.out; have hnc27 := NB109_107.out; have hcz28 := bc6 BK107; have hnb29 := NB109_108.out; have hnc29 := NB108_109.out; have hcz30 := bc10 BK109; have hcz31 := bc10 BK108; go_wp2; refine bodyPost_ret (results_cell_row rfl _ _ gb108 116 #[.bool ((Int.tmod a0_0 3) == 0), .int .u32 0, .int .i64 0, .int .u8 x110003_1, .int .u8 x110004_15, .bool ((Int.tmod a0_3 4) == 3), .int .u8 ((Int.tdiv a0_3 16) % 256), .int .u8 ((Int.tdiv a0_4 16) % 256), .int .i64 (wrap64 (Int.tmod a0_4 4)), .int .i64 0] (0, 0) _ rfl (bkp BK108) Try.underlying116 rfl (by kernel_rfl)) rfl ?_; exact ⟨eqd, bel⟩
      ·rw [if_neg c25] at H
       (have c25b0 : ((Int.tmod a0_0 3) == 0) = false := by simpa using c25); (try (have c25b1 : decide ((Int.tmod a0_0 3) = 0) = false := by simpa using c25)); (try (have c25b2 : ((Int.tmod a0_0 3) == 0) = false := by simpa using c25)); (try (have c25b3 : ¬ ((Int.tmod a0_0 3) = 0) := by simpa using c25)); clear c25; replace H := Option.bind_eq_some_iff.mp H; obtain ⟨⟨t110, t111⟩, A320, H⟩ := H; dsimp only at H; have A32 := A_ A320; clear A320; simp only [Option.some.injEq, Prod.mk.injEq] at H; obtain ⟨rfl, rfl, rfl, rfl, rfl, rfl, rfl, rfl, rfl, rfl⟩ := H; have hnb33 := NB107_108.out; have hnc33 := NB108_107.out; have hnb34 := NB107_109.out; have hnc34 := NB109_107.out; have hcz35 := bc6 BK107; have hnb36 := NB109_108.out; have hnc36 := NB108_109.out; have hcz37 := bc10 BK109; go_wp2_with (first | ((with_reducible refine gate_dst (N := 49) rfl ?_); refine gl (some 49) Try.func34 #[.int .u8 a0_0] ?_; (with_reducible refine (maquettelaw05_Make.calls kj15 a0_0 t110 t111 _ A32.out).mono ?_); rintro e w38 ⟨rfl, hb⟩; refine ⟨_, rfl, ?_⟩; replace BK107 := bkb BK107 hb; replace BK108 := bkb BK108 hb; replace BK109 := A_ (blk_below (g := gb109) (o := .cells #[.bool ((Int.tmod a0_0 3) == 0), .int .u32 0, .int .i64 0, .int .u8 x110003_1, .int .u8 x110004_15, .bool ((Int.tmod a0_3 4) == 3), .int .u8 ((Int.tdiv a0_3 16) % 256), .int .u8 ((Int.tdiv a0_4 16) % 256), .int .i64 (wrap64 (Int.tmod a0_4 4)), .int .i64 0] 116 (0, 0)) (bkp BK109) hb); replace HB := bst hb; (try clear hb); have hcz39 := bc10 BK109; have hcz40 := bc10 BK108)); refine bodyPost_ret (results_cell_row rfl _ _ gb108 116 #[.bool ((Int.tmod a0_0 3) == 0), .int .u32 t110, .int .i64 t111, .int .u8 x110003_1, .int .u8 x110004_15, .bool ((Int.tmod a0_3 4) == 3), .int .u8 ((Int.tdiv a0_3 16) % 256), .int .u8 ((Int.tdiv a0_4 16) % 256), .int .i64 (wrap64 (Int.tmod a0_4 4)), .int .i64 0] (0, 0) _ rfl (bkp BK108) Try.underlying116 rfl (by kernel_rfl)) rfl ?_; exact ⟨eqd, bel⟩
     ·rw [if_neg c24] at H
      have c24b0 := decide_eq_false c24; clear c24; by_cases c41 : ((Int.tmod a0_0 3) == 0) = true
      ·rw [if_pos c41] at H
       have c41b0 : ((Int.tmod a0_0 3) == 0) = true := c41; (try (have c41b1 : decide ((Int.tmod a0_0 3) = 0) = true := by simpa using c41)); (try (have c41b2 : ((Int.tmod a0_0 3) == 0) = true := by simpa using c41)); clear c41; simp only [Option.some.injEq, Prod.mk.injEq] at H; obtain ⟨rfl, rfl, rfl, rfl, rfl, rfl, rfl, rfl, rfl, rfl⟩ := H; have hnb42 := NB107_108.out; have hnc42 := NB108_107.out; have hnb43 := NB107_109.out; have hnc43 := NB109_107.out; have hcz44 := bc6 BK107; have hnb45 := NB109_108.out; have hnc45 := NB108_109.out; have hcz46 := bc10 BK109; have hcz47 := bc10 BK108; go_wp2; refine bodyPost_ret (results_cell_row rfl _ _ gb108 116 #[.bool ((Int.tmod a0_0 3) == 0), .int .u32 0, .int .i64 0, .int .u8 x110003_1, .int .u8 x110004_15, .bool ((Int.tmod a0_3 4) == 3), .int .u8 ((Int.tdiv a0_3 16) % 256), .int .u8 ((Int.tdiv a0_4 16) % 256), .int .i64 (wrap64 (Int.tmod a0_4 4)), .int .i64 (wrap64 (a0_5))] (0, 0) _ rfl (bkp BK108) Try.underlying116 rfl (by kernel_rfl)) rfl ?_; exact ⟨eqd, bel⟩
      ·rw [if_neg c41] at H
       (have c41b0 : ((Int.tmod a0_0 3) == 0) = false := by simpa using c41); (try (have c41b1 : decide ((Int.tmod a0_0 3) = 0) = false := by simpa using c41)); (try (have c41b2 : ((Int.tmod a0_0 3) == 0) = false := by simpa using c41)); (try (have c41b3 : ¬ ((Int.tmod a0_0 3) = 0) := by simpa using c41)); clear c41; replace H := Option.bind_eq_some_iff.mp H; obtain ⟨⟨t112, t113⟩, A480, H⟩ := H; dsimp only at H; have A48 := A_ A480; clear A480; simp only [Option.some.injEq, Prod.mk.injEq] at H; obtain ⟨rfl, rfl, rfl, rfl, rfl, rfl, rfl, rfl, rfl, rfl⟩ := H; have hnb49 := NB107_108.out; have hnc49 := NB108_107.out; have hnb50 := NB107_109.out; have hnc50 := NB109_107.out; have hcz51 := bc6 BK107; have hnb52 := NB109_108.out; have hnc52 := NB108_109.out; have hcz53 := bc10 BK109; go_wp2_with (first | ((with_reducible refine gate_dst (N := 49) rfl ?_); refine gl (some 49) Try.func34 #[.int .u8 a0_0] ?_; (with_reducible refine (maquettelaw05_Make.calls kj15 a0_0 t112 t113 _ A48.out).mono ?_); rintro e w54 ⟨rfl, hb⟩; refine ⟨_, rfl, ?_⟩; replace BK107 := bkb BK107 hb; replace BK108 := bkb BK108 hb; replace BK109 := bkb BK109 hb; replace HB := bst hb; (try clear hb); have hcz55 := bc10 BK109; have hcz56 := bc10 BK108)); refine bodyPost_ret (results_cell_row rfl _ _ gb108 116 #[.bool ((Int.tmod a0_0 3) == 0), .int .u32 t112, .int .i64 t113, .int .u8 x110003_1, .int .u8 x110004_15, .bool ((Int.tmod a0_3 4) == 3), .int .u8 ((Int.tdiv a0_3 16) % 256), .int .u8 ((Int.tdiv a0_4 16) % 256), .int .i64 (wrap64 (Int.tmod a0_4 4)), .int .i64 (wrap64 (a0_5))] (0, 0) _ rfl (bkp BK108) Try.underlying116 rfl (by kernel_rfl)) rfl ?_; exact ⟨eqd, bel⟩
def maquettelaw07_Clauses.l0 : Nat → List (S116) → List (S114) → Int → Int → Option ((List (S116)))
 | 0, _, _, _, _ => none
 | k + 1, x3, x6, x7, x8 => if x8 < x7 then (if 0 ≤ x8 then (if x8 < (x6.length : Int) then (if x8 < 5 then ((maquettelaw07_Rule_Clause.f k ((rd_T114 x6 x8).f0) ((rd_T114 x6 x8).f1) ((rd_T114 x6 x8).f2) ((rd_T114 x6 x8).f3) ((rd_T114 x6 x8).f4) ((rd_T114 x6 x8).f5)).bind fun bt116 => (if x3.length < 2932031007402 then (maquettelaw07_Clauses.l0 k (x3 ++ [(⟨bt116.1, (⟨bt116.2.1, bt116.2.2.1⟩ : S35), bt116.2.2.2.1, bt116.2.2.2.2.1, bt116.2.2.2.2.2.1, bt116.2.2.2.2.2.2.1, bt116.2.2.2.2.2.2.2.1, bt116.2.2.2.2.2.2.2.2.1, bt116.2.2.2.2.2.2.2.2.2⟩ : S116)]) x6 x7 (wrap64 (x8 + 1))) else (none))) else (maquettelaw07_Clauses.l0 k x3 x6 x7 (wrap64 (x8 + 1)))) else (none)) else (none)) else (some x3)
def maquettelaw07_Clauses.f (k : Nat) (l0 : List (S114)) : Option ((List (S116))) := maquettelaw07_Clauses.l0 k ([] : List (S116)) l0 (l0.length : Int) 0
theorem maquettelaw07_Clauses.mono_l : ∀ k, (∀ y0 y1 y2 y3, LeO (maquettelaw07_Clauses.l0 k y0 y1 y2 y3) (maquettelaw07_Clauses.l0 (k + 1) y0 y1 y2 y3))
 | 0 => fun _ _ _ _ r h => by simp [maquettelaw07_Clauses.l0] at h
 | k + 1 => by
  have ih0 := maquettelaw07_Clauses.mono_l k
  ·intro y0 y1 y2 y3
   unfold maquettelaw07_Clauses.l0; repeat' first
   | (with_reducible exact ih0 _ _ _ _)
   | (with_reducible exact maquettelaw07_Rule_Clause.mono _ _ _ _ _ _ _)
   | (with_reducible exact LeO.refl _)
   | (with_reducible exact LeO.none _)
   | (with_reducible refine LeO.ite ?_ ?_)
   | (with_reducible refine LeO.bind ?_ (fun _ => ?_))
   | exact ih0 _ _ _ _
   | exact maquettelaw07_Rule_Clause.mono _ _ _ _ _ _ _
   | exact LeO.none _
   | refine LeO.ite ?_ ?_
   | refine LeO.bind ?_ (fun _ => ?_)
theorem maquettelaw07_Clauses.mono : ∀ a0 k, LeO (maquettelaw07_Clauses.f k a0) (maquettelaw07_Clauses.f (k + 1) a0) := by
 intro a0 k; have ih0 := maquettelaw07_Clauses.mono_l k; unfold maquettelaw07_Clauses.f
 repeat' first
   | (with_reducible exact ih0 _ _ _ _)
   | (with_reducible exact maquettelaw07_Rule_Clause.mono _ _ _ _ _ _ _)
   | (with_reducible exact LeO.refl _)
   | (with_reducible exact LeO.none _)
   | (with_reducible refine LeO.ite ?_ ?_)
   | (with_reducible refine LeO.bind ?_ (fun _ => ?_))
   | exact ih0 _ _ _ _
   | exact maquettelaw07_Rule_Clause.mono _ _ _ _ _ _ _
   | exact LeO.none _
   | refine LeO.ite ?_ ?_
   | refine LeO.bind ?_ (fun _ => ?_)
set_option maxHeartbeats 8000000 in
set_option maxRecDepth 100000 in
theorem maquettelaw07_Clauses.calls (k : Nat) (A0 : Option Addr) (c0 : Nat) (l0 : List (S114)) (r : List (S116)) (w : World) (hr0 : Kd.C k114 w A0 l0.length l0) (hc0 : l0.length ≤ c0) (h : maquettelaw07_Clauses.f k l0 = some r) :
  Calls Try.prog 31 #[.slice A0 l0.length c0] w fun e w' => ∃ v0_ : Value, e = .returned (v0_) ∧ Kd.R k116 116 w' w.heap.size (fun _ => True) v0_ r ∧ Below w.heap.size w w' := by
 have hu114 := Try.underlying114; have HR0 := A_ hr0; have HC0 := A_ hc0; clear hr0 hc0; have HB := A_ (Below.refl w.heap.size w); unfold maquettelaw07_Clauses.f at h; have H := h; clear h; have H' := A_ H; clear H; go_enter Try.func31, Try.ntmps31; go_wp2; go_loopg [3, 8] k (fun kq v3 v8 w' => ∃ (x3_1 : List (S116)) (x8_1 : Int), v8 = .int .i64 x8_1 ∧ Aside0 (maquettelaw07_Clauses.l0 kq x3_1 l0 (l0.length : Int) x8_1 = some r) ∧ Aside0 (kq ≤ k) ∧ Aside0 (Kd.R k116 116 w' w.heap.size (fun _ => True) v3 x3_1) ∧ Aside0 (Below w.heap.size w w'))
 case atStart => exact ⟨(([] : List (S116))), (0), eqs, H', ⟨Nat.le_refl _⟩, ⟨by first | exact Kd.R_nil _ _ _ _ _ | exact Kd.N_nil _ _ _ _ _ | exact Kd.V_nil _ _ _ _ _ | exact Kd.Q_nil _ _ _ _ _ | exact Kd.S_nil _ _ _ _ _⟩, ⟨bel⟩⟩
 case round =>
  clear H'; obtain ⟨x3_1, x8_1, rfl, HA, HK1, HO_3, HB⟩ := hrel
  cases gk with
  | zero => exact absurd HA.out (by simp [maquettelaw07_Clauses.l0])
  | succ k1 =>
   have H := HA.out; clear HA; simp only [maquettelaw07_Clauses.l0] at H; by_cases c2 : x8_1 < (l0.length : Int)
   ·rw [if_pos c2] at H
    have c2b0 := decide_eq_true c2; clear c2; by_cases c3 : 0 ≤ x8_1
    ·rw [if_pos c3] at H
     have c3b0 := decide_eq_true c3; clear c3; by_cases c4 : x8_1 < (l0.length : Int)
     ·rw [if_pos c4] at H
      have c4b0 := decide_eq_true c4; clear c4; by_cases c5 : x8_1 < 5
      ·rw [if_pos c5] at H
       have c5b0 := decide_eq_true c5; clear c5; replace H := Option.bind_eq_some_iff.mp H; obtain ⟨⟨t116, t117, t118, t119, t120, t121, t122, t123, t124, t125⟩, A60, H⟩ := H; dsimp only at H; have A6 := A_ A60; clear A60; by_cases c7 : x3_1.length < 2932031007402
       ·rw [if_pos c7] at H
        have LMc7 := A_ c7; clear c7; obtain ⟨y126, hy126⟩ : ∃ y_ : List (S116), y_ = (x3_1 ++ [(⟨t116, (⟨t117, t118⟩ : S35), t119, t120, t121, t122, t123, t124, t125⟩ : S116)]) := ⟨_, rfl⟩; (first | rw [← hy126] at H | (have H2_ := (Option.bind_some _ _).symm.trans H; clear H; have H := H2_; clear H2_; (try rw [← hy126] at H))); have Ny126 := A_ hy126; clear hy126; have H' := A_ H; clear H; have p114 : 0 ≤ (x8_1 : Int) := odt; have q114 : x8_1 < (l0.length : Int) := odt; obtain ⟨ad114, e114, hx114_0, hx114_1, hx114_2, hx114_3, hx114_4, hx114_5⟩ := at_T114 HR0.out x8_1 p114 q114; cases e114; replace hx114_0 := hbc HB hx114_0; replace hx114_1 := hbc HB hx114_1; replace hx114_2 := hbc HB hx114_2; replace hx114_3 := hbc HB hx114_3; replace hx114_4 := hbc HB hx114_4; replace hx114_5 := hbc HB hx114_5; replace p114 := eq_true p114; replace q114 := eq_true q114
        go_wp2_with (first | ((with_reducible refine gate_dst (N := 5) rfl ?_); refine bx 5 (cs := #[.int .u8 0, .int .u8 0, .int .u8 0, .int .u8 0, .int .u8 0, .int .u8 0]) (t := 114) (h := ?_); intro gb115 hg w8 hbox hb; have BK115 := A_ hbox; have GW115 : Aside0 (w.heap.size ≤ gb115) := bge hg; replace HO_3 := A_ (Kd.R_below (kR HO_3) hb); replace HB := bst hb; clear hb hbox hg; have hcz9 := bc6 BK115) | ((with_reducible refine gate_dst (N := 17) rfl ?_); refine gl (some 17) Try.func47 #[.agg #[.int .u8 ((rd_T114 l0 x8_1).f0), .int .u8 ((rd_T114 l0 x8_1).f1), .int .u8 ((rd_T114 l0 x8_1).f2), .int .u8 ((rd_T114 l0 x8_1).f3), .int .u8 ((rd_T114 l0 x8_1).f4), .int .u8 ((rd_T114 l0 x8_1).f5)]] ?_; (with_reducible refine (maquettelaw07_Rule_Clause.calls k1 ((rd_T114 l0 x8_1).f0) ((rd_T114 l0 x8_1).f1) ((rd_T114 l0 x8_1).f2) ((rd_T114 l0 x8_1).f3) ((rd_T114 l0 x8_1).f4) ((rd_T114 l0 x8_1).f5) t116 t117 t118 t119 t120 t121 t122 t123 t124 t125 _ A6.out).mono ?_); rintro e w10 ⟨rfl, hb⟩; refine ⟨_, rfl, ?_⟩; replace HO_3 := A_ (Kd.R_below (by (with_reducible repeat (first | apply Kd.R_alloc | apply Kd.R_drewN | apply Kd.R_drew)); exact (Kd.R_mono (Kd.R_far (p := ⟨gb115, 5, none⟩) (Kd.R_far (p := ⟨gb115, 4, none⟩) (Kd.R_far (p := ⟨gb115, 3, none⟩) (Kd.R_far (p := ⟨gb115, 2, none⟩) (Kd.R_far (p := ⟨gb115, 1, none⟩) (Kd.R_far (p := ⟨gb115, 0, none⟩) (Kd.R_types HO_3.out BK115.out (by decide)) (fun _ hk => hk.2) (.int .u8 ((rd_T114 l0 x8_1).f0))) (fun _ hk => hk.2) (.int .u8 ((rd_T114 l0 x8_1).f1))) (fun _ hk => hk.2) (.int .u8 ((rd_T114 l0 x8_1).f2))) (fun _ hk => hk.2) (.int .u8 ((rd_T114 l0 x8_1).f3))) (fun _ hk => hk.2) (.int .u8 ((rd_T114 l0 x8_1).f4))) (fun _ hk => hk.2) (.int .u8 ((rd_T114 l0 x8_1).f5))) (fun _ h_ => h_.1))) hb); replace BK115 := A_ (blk_below (g := gb115) (o := .cells #[.int .u8 ((rd_T114 l0 x8_1).f0), .int .u8 ((rd_T114 l0 x8_1).f1), .int .u8 ((rd_T114 l0 x8_1).f2), .int .u8 ((rd_T114 l0 x8_1).f3), .int .u8 ((rd_T114 l0 x8_1).f4), .int .u8 ((rd_T114 l0 x8_1).f5)] 114 (0, 0)) (bkp BK115) hb); replace HB := bst hb; (try clear hb)) | ((with_reducible refine gate_builtin (b := .append) (xs := #[.tmp 15, .tmp 18]) rfl ?_); at_builtin; refine Kd.R_append k116 (w0 := w) w.heap.size rfl (.tmp 15) (.tmp 18) 49 116 (.agg #[(.bool false), (.int .u32 0), (.int .i64 0), (.int .u8 0), (.int .u8 0), (.bool false), (.int .u8 0), (.int .u8 0), (.int .i64 0), (.int .i64 0)]) 48 rfl Try.underlying49 info116 rfl (by decide) (by omega) u3 x3_1 (⟨t116, (⟨t117, t118⟩ : S35), t119, t120, t121, t122, t123, t124, t125⟩ : S116) [.bool t116, .int .u32 t117, .int .i64 t118, .int .u8 t119, .int .u8 t120, .bool t121, .int .u8 t122, .int .u8 t123, .int .i64 t124, .int .i64 t125] (fun _ => True) (fun _ => False) rfl rfl ?aP (fun _ hk => hk.elim) ?aF ?aO ?aB ?aS ?aL ?_; (case aP => exact k116_mkM _ _ _ (⟨t116, (⟨t117, t118⟩ : S35), t119, t120, t121, t122, t123, t124, t125⟩ : S116)); (case aB => exact bel); (case aF => exact (fun _ _ => trivial)); (case aO => exact (kR HO_3)); (case aS => exact (below_size bel)); (case aL => have := LMc7.out; omega); intro v127 w11 ho hb hg hat; rw [← Ny126.out] at ho; have HO128 := A_ ho; replace BK115 := A_ (blk_grown (bkq BK115) hg (Kd.R_ne HO_3.out BK115.out (by decide))); replace HB := A_ (hb); clear HO_3; clear ho hb hg hat))
        go_roundg k1
        case measure => have := HK1.out; omega
        case rel => exact ⟨(y126), (wrap64 (x8_1 + 1)), eqs, H', ⟨by have := HK1.out; omega⟩, ⟨fR HO128⟩, ⟨bel⟩⟩
       ·rw [if_neg c7] at H
        exact absurd H (by simp)
      ·rw [if_neg c5] at H
       have c5b0 := decide_eq_false c5; clear c5; have H' := A_ H; clear H; have p114 : 0 ≤ (x8_1 : Int) := odt; have q114 : x8_1 < (l0.length : Int) := odt; obtain ⟨ad114, e114, hx114_0, hx114_1, hx114_2, hx114_3, hx114_4, hx114_5⟩ := at_T114 HR0.out x8_1 p114 q114; cases e114; replace hx114_0 := hbc HB hx114_0; replace hx114_1 := hbc HB hx114_1; replace hx114_2 := hbc HB hx114_2; replace hx114_3 := hbc HB hx114_3; replace hx114_4 := hbc HB hx114_4; replace hx114_5 := hbc HB hx114_5; replace p114 := eq_true p114; replace q114 := eq_true q114; go_wp2_with (first | ((with_reducible refine gate_dst (N := 5) rfl ?_); refine bx 5 (cs := #[.int .u8 0, .int .u8 0, .int .u8 0, .int .u8 0, .int .u8 0, .int .u8 0]) (t := 114) (h := ?_); intro gb115 hg w12 hbox hb; have BK115 := A_ hbox; have GW115 : Aside0 (w.heap.size ≤ gb115) := bge hg; replace HO_3 := A_ (Kd.R_below (kR HO_3) hb); replace HB := bst hb; clear hb hbox hg; have hcz13 := bc6 BK115)); go_roundg k1
       case measure => have := HK1.out; omega
       case rel => exact ⟨(x3_1), (wrap64 (x8_1 + 1)), eqs, H', ⟨by have := HK1.out; omega⟩, ⟨by (with_reducible repeat (first | apply Kd.R_alloc | apply Kd.R_drewN | apply Kd.R_drew)); exact Kd.R_mono (Kd.R_far (p := ⟨gb115, 5, none⟩) (Kd.R_far (p := ⟨gb115, 4, none⟩) (Kd.R_far (p := ⟨gb115, 3, none⟩) (Kd.R_far (p := ⟨gb115, 2, none⟩) (Kd.R_far (p := ⟨gb115, 1, none⟩) (Kd.R_far (p := ⟨gb115, 0, none⟩) (Kd.R_types HO_3.out BK115.out (by decide)) (fun _ hk => hk.2) (.int .u8 ((rd_T114 l0 x8_1).f0))) (fun _ hk => hk.2) (.int .u8 ((rd_T114 l0 x8_1).f1))) (fun _ hk => hk.2) (.int .u8 ((rd_T114 l0 x8_1).f2))) (fun _ hk => hk.2) (.int .u8 ((rd_T114 l0 x8_1).f3))) (fun _ hk => hk.2) (.int .u8 ((rd_T114 l0 x8_1).f4))) (fun _ hk => hk.2) (.int .u8 ((rd_T114 l0 x8_1).f5))) (fun _ hk => trivial)⟩, ⟨bel⟩⟩
     ·rw [if_neg c4] at H
      exact absurd H (by simp)
    ·rw [if_neg c3] at H
     exact absurd H (by simp)
   ·rw [if_neg c2] at H
    have c2b0 := decide_eq_false c2; clear c2; obtain rfl := Option.some.inj H; go_wp2; go_ret; exact ⟨_, eqd, by (with_reducible repeat (first | apply Kd.R_alloc | apply Kd.R_drewN | apply Kd.R_drew)); exact HO_3.out, bel⟩
def maquettelaw07_Name.f (a0 : Int) : Option (ByteArray) := if 1 + (Utf8.encode (wrap32 (wrap64 (97 + a0)))).size ≤ 9223372036854775807 then (some ((⟨#[114]⟩ : ByteArray) ++ (Utf8.encode (wrap32 (wrap64 (97 + a0)))))) else (none)
set_option maxHeartbeats 8000000 in
set_option maxRecDepth 100000 in
theorem maquettelaw07_Name.calls (a0 : Int) (r : ByteArray) (w : World) (h : maquettelaw07_Name.f a0 = some r) :
  Calls Try.prog 32 #[.int .i64 a0] w fun e w' => e = .returned (.string r) ∧ Drawn0 w w' := by
 unfold maquettelaw07_Name.f at h; have H := h; clear h; by_cases c2 : 1 + (Utf8.encode (wrap32 (wrap64 (97 + a0)))).size ≤ 9223372036854775807
 ·rw [if_pos c2] at H
  have c2b0 := eq_true c2; have c2b1 := decide_eq_true c2; (try have c2b2 := eq_false (Nat.not_lt.2 c2)); obtain rfl := Option.some.inj H; go_enter Try.func32, Try.ntmps32; go_wp2; go_ret; exact ⟨by first | rfl | (simp; done) | (simp [*]; done), by repeat (first | exact Drawn0.refl _ | apply Drawn0.step)⟩
 ·rw [if_neg c2] at H
  exact absurd H (by simp)
def maquettelaw07_number.f (l0 : List Int) (a1 : Int) : Option (Int) := if (l0.length : Int) = 0 then (some 0) else (if 0 ≤ (Int.tmod a1 (l0.length : Int)) then (if (Int.tmod a1 (l0.length : Int)) < (l0.length : Int) then (some (wrap64 (rd l0 (Int.tmod a1 (l0.length : Int))))) else (none)) else (none))
set_option maxHeartbeats 8000000 in
set_option maxRecDepth 100000 in
theorem maquettelaw07_number.calls (A0 : Option Addr) (c0 : Nat) (l0 : List Int) (a1 : Int) (r : Int) (w : World) (hr0 : Kd.C (Kd.int .u8) w A0 l0.length l0) (hc0 : l0.length ≤ c0) (h : maquettelaw07_number.f l0 a1 = some r) :
  Calls Try.prog 33 #[.slice A0 l0.length c0, .int .i64 a1] w fun e w' => e = .returned (.int .i64 r) ∧ Drawn0 w w' := by
 have HR0 := A_ hr0; have HC0 := A_ hc0; clear hr0 hc0; unfold maquettelaw07_number.f at h; have H := h; clear h; by_cases c3 : (l0.length : Int) = 0
 ·rw [if_pos c3] at H
  have c3b0 : ((l0.length : Int) == 0) = true := beq_iff_eq.mpr c3; have c3b1 : ((l0.length : Int) != 0) = false := bne_eq_false_iff_eq.mpr c3; clear c3; obtain rfl := Option.some.inj H; go_enter Try.func33, Try.ntmps33; go_wp2; go_ret; exact ⟨by first | rfl | (simp; done) | (simp [*]; done), by repeat (first | exact Drawn0.refl _ | apply Drawn0.step)⟩
 ·rw [if_neg c3] at H
  have c3b0 : ((l0.length : Int) == 0) = false := beq_eq_false_iff_ne.mpr c3; have c3b1 : ((l0.length : Int) != 0) = true := bne_iff_ne.mpr c3; (have c3b2 : ¬ (l0 = []) := fun h_ => c3 (by rw [h_]; rfl)); obtain ⟨ji4, hji4⟩ : ∃ j_ : Int, (Int.tmod a1 (l0.length : Int)) = j_ := ⟨_, rfl⟩; (replace H : (if 0 ≤ (ji4) then (if (ji4) < (l0.length : Int) then (some (wrap64 (rd l0 (ji4)))) else (none)) else (none)) = some r := by first | (rw [hji4] at H; exact H) | (simp only [hji4] at H ⊢; exact H)); by_cases c5 : 0 ≤ (ji4)
  ·rw [if_pos c5] at H
   have c5b0 := decide_eq_true c5; clear c5; by_cases c6 : (ji4) < (l0.length : Int)
   ·rw [if_pos c6] at H
    have c6b0 := decide_eq_true c6; clear c6; obtain rfl := Option.some.inj H; have p129 : 0 ≤ ((ji4) : Int) := odt; have q129 : (ji4) < (l0.length : Int) := odt; obtain ⟨ad129, e129, hx129_0⟩ := Kd.at_int HR0.out (ji4) p129 q129; cases e129; replace p129 := eq_true p129; replace q129 := eq_true q129; go_enter Try.func33, Try.ntmps33; go_wp2; go_ret; exact ⟨by first | rfl | (simp; done) | (simp only [← hji4] <;> (first | rfl | simp)) | (simp [*]; done), by repeat (first | exact Drawn0.refl _ | apply Drawn0.step)⟩
   ·rw [if_neg c6] at H
    exact absurd H (by simp)
  ·rw [if_neg c5] at H
   exact absurd H (by simp)
def maquettelaw07_Shape_mapped.f (a0_0 : Int) (l0_1 : List Int) (l0_2 : List (List (S114))) (l0_3 : List Int) (l0_4 : List Int) (l0_5 : List Int) (a1 : Int) : Option (ByteArray) := if (mn (l0_2.length : Int) 4) = 0 then (some (⟨#[]⟩ : ByteArray)) else (if (Int.tmod a1 3) > 0 then (some (⟨#[]⟩ : ByteArray)) else (if 1 + (Utf8.encode (wrap32 (wrap64 (97 + (Int.tmod (wrap64 (Int.tdiv a1 3)) (mn (l0_2.length : Int) 4)))))).size ≤ 9223372036854775807 then (some ((⟨#[109]⟩ : ByteArray) ++ (Utf8.encode (wrap32 (wrap64 (97 + (Int.tmod (wrap64 (Int.tdiv a1 3)) (mn (l0_2.length : Int) 4)))))))) else (none)))
set_option maxHeartbeats 8000000 in
set_option maxRecDepth 100000 in
theorem maquettelaw07_Shape_mapped.calls (a0_0 : Int) (A0_1 : Option Addr) (c0_1 : Nat) (l0_1 : List Int) (A0_2 : Option Addr) (c0_2 : Nat) (l0_2 : List (List (S114))) (A0_3 : Option Addr) (c0_3 : Nat) (l0_3 : List Int) (A0_4 : Option Addr) (c0_4 : Nat) (l0_4 : List Int) (A0_5 : Option Addr) (c0_5 : Nat) (l0_5 : List Int) (a1 : Int) (r : ByteArray) (w : World) (hr0_1 : Kd.C (Kd.int .u8) w A0_1 l0_1.length l0_1) (hc0_1 : l0_1.length ≤ c0_1) (hr0_2 : Kd.C (Kd.slice 114 k114) w A0_2 l0_2.length l0_2) (hc0_2 : l0_2.length ≤ c0_2) (hr0_3 : Kd.C (Kd.int .u8) w A0_3 l0_3.length l0_3) (hc0_3 : l0_3.length ≤ c0_3) (hr0_4 : Kd.C (Kd.int .u8) w A0_4 l0_4.length l0_4) (hc0_4 : l0_4.length ≤ c0_4) (hr0_5 : Kd.C (Kd.int .u8) w A0_5 l0_5.length l0_5) (hc0_5 : l0_5.length ≤ c0_5) (h : maquettelaw07_Shape_mapped.f a0_0 l0_1 l0_2 l0_3 l0_4 l0_5 a1 = some r) :
  Calls Try.prog 35 #[.agg #[.int .u8 a0_0, .slice A0_1 l0_1.length c0_1, .slice A0_2 l0_2.length c0_2, .slice A0_3 l0_3.length c0_3, .slice A0_4 l0_4.length c0_4, .slice A0_5 l0_5.length c0_5], .int .i64 a1] w fun e w' => e = .returned (.string r) ∧ Below w.heap.size w w' := by
 have hu25 := Try.underlying25; have HR0_1 := A_ hr0_1; have HC0_1 := A_ hc0_1; clear hr0_1 hc0_1; have HR0_2 := A_ hr0_2; have HC0_2 := A_ hc0_2; clear hr0_2 hc0_2; have HR0_3 := A_ hr0_3; have HC0_3 := A_ hc0_3; clear hr0_3 hc0_3; have HR0_4 := A_ hr0_4; have HC0_4 := A_ hc0_4; clear hr0_4 hc0_4; have HR0_5 := A_ hr0_5; have HC0_5 := A_ hc0_5; clear hr0_5 hc0_5; have HB := A_ (Below.refl w.heap.size w); unfold maquettelaw07_Shape_mapped.f at h; have H := h; clear h; obtain ⟨ji3, hji3⟩ : ∃ j_ : Int, (mn (l0_2.length : Int) 4) = j_ := ⟨_, rfl⟩; (replace H : (if (ji3) = 0 then (some (⟨#[]⟩ : ByteArray)) else (if (Int.tmod a1 3) > 0 then (some (⟨#[]⟩ : ByteArray)) else (if 1 + (Utf8.encode (wrap32 (wrap64 (97 + (Int.tmod (wrap64 (Int.tdiv a1 3)) (ji3)))))).size ≤ 9223372036854775807 then (some ((⟨#[109]⟩ : ByteArray) ++ (Utf8.encode (wrap32 (wrap64 (97 + (Int.tmod (wrap64 (Int.tdiv a1 3)) (ji3)))))))) else (none)))) = some r := by first | (rw [hji3] at H; exact H) | (simp only [hji3] at H ⊢; exact H)); (try (have hji3h : ji3 ≤ 4 := by (rw [← hji3]; unfold mn; (repeat' split) <;> omega))); (try (have hji3g : ji3 ≤ 64 := by omega)); (try (have hji3l : 0 ≤ ji3 := by (rw [← hji3]; unfold mn; (repeat' split) <;> omega))); (try (have hji3m : 0 ≤ ji3 := by omega)); have hji3_ : (if 4 < (l0_2.length : Int) then 4 else (l0_2.length : Int)) = ji3 := hji3; by_cases c4 : (ji3) = 0
 ·rw [if_pos c4] at H
  have c4b0 : ((ji3) == 0) = true := beq_iff_eq.mpr c4; have c4b1 : ((ji3) != 0) = false := bne_eq_false_iff_eq.mpr c4; clear c4; obtain rfl := Option.some.inj H; go_enter Try.func35, Try.ntmps35; go_wp2_with (first | ((with_reducible refine gate_dst (N := 2) rfl ?_); refine bx 2 (cs := #[.int .u8 a0_0, .slice A0_1 l0_1.length c0_1, .slice A0_2 l0_2.length c0_2, .slice A0_3 l0_3.length c0_3, .slice A0_4 l0_4.length c0_4, .slice A0_5 l0_5.length c0_5]) (t := 25) (h := ?_); intro gb130 hg w5 hbox hb; have BK130 := A_ hbox; have GW130 : Aside0 (w.heap.size ≤ gb130) := bge hg; replace HB := bst hb; clear hb hbox hg; have hcz6 := bc6 BK130)); go_ret; exact ⟨by first | rfl | (simp [errW_none, errW_some] <;> rfl) | (simp only [← hji3]; first | rfl | (simp [errW_none, errW_some] <;> rfl)) | (simp [*, errW_none, errW_some] <;> rfl), bel⟩
 ·rw [if_neg c4] at H
  have c4b0 : ((ji3) == 0) = false := beq_eq_false_iff_ne.mpr c4; have c4b1 : ((ji3) != 0) = true := bne_iff_ne.mpr c4; by_cases c7 : (Int.tmod a1 3) > 0
  ·rw [if_pos c7] at H
   have c7b0 : decide (0 < (Int.tmod a1 3)) = true := decide_eq_true c7; clear c7; obtain rfl := Option.some.inj H; go_enter Try.func35, Try.ntmps35; go_wp2_with (first | ((with_reducible refine gate_dst (N := 2) rfl ?_); refine bx 2 (cs := #[.int .u8 a0_0, .slice A0_1 l0_1.length c0_1, .slice A0_2 l0_2.length c0_2, .slice A0_3 l0_3.length c0_3, .slice A0_4 l0_4.length c0_4, .slice A0_5 l0_5.length c0_5]) (t := 25) (h := ?_); intro gb130 hg w8 hbox hb; have BK130 := A_ hbox; have GW130 : Aside0 (w.heap.size ≤ gb130) := bge hg; replace HB := bst hb; clear hb hbox hg; have hcz9 := bc6 BK130)); go_ret; exact ⟨by first | rfl | (simp [errW_none, errW_some] <;> rfl) | (simp only [← hji3]; first | rfl | (simp [errW_none, errW_some] <;> rfl)) | (simp [*, errW_none, errW_some] <;> rfl), bel⟩
  ·rw [if_neg c7] at H
   have c7b0 : decide (0 < (Int.tmod a1 3)) = false := decide_eq_false c7; clear c7; by_cases c10 : 1 + (Utf8.encode (wrap32 (wrap64 (97 + (Int.tmod (wrap64 (Int.tdiv a1 3)) (ji3)))))).size ≤ 9223372036854775807
   ·rw [if_pos c10] at H
    have c10b0 := eq_true c10; have c10b1 := decide_eq_true c10; (try have c10b2 := eq_false (Nat.not_lt.2 c10)); obtain rfl := Option.some.inj H; go_enter Try.func35, Try.ntmps35; go_wp2_with (first | ((with_reducible refine gate_dst (N := 2) rfl ?_); refine bx 2 (cs := #[.int .u8 a0_0, .slice A0_1 l0_1.length c0_1, .slice A0_2 l0_2.length c0_2, .slice A0_3 l0_3.length c0_3, .slice A0_4 l0_4.length c0_4, .slice A0_5 l0_5.length c0_5]) (t := 25) (h := ?_); intro gb130 hg w11 hbox hb; have BK130 := A_ hbox; have GW130 : Aside0 (w.heap.size ≤ gb130) := bge hg; replace HB := bst hb; clear hb hbox hg; have hcz12 := bc6 BK130)); go_ret; exact ⟨by first | rfl | (simp [errW_none, errW_some] <;> rfl) | (simp only [← hji3]; first | rfl | (simp [errW_none, errW_some] <;> rfl)) | (simp [*, errW_none, errW_some] <;> rfl), bel⟩
   ·rw [if_neg c10] at H
    exact absurd H (by simp)
end Go.Proofs.Ytcagkdgpoijkoaa.PLf
end
