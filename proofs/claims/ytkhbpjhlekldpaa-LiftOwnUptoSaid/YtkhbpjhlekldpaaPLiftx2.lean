-- Written by wip/xprint.py of this work: the printer of the kit, with contracts of this work beside it, shortened.
import Derived.Test.YtkhbpjhlekldpaaShort
import Derived.Test.YtkhbpjhlekldpaaPLiftx0
namespace Go.Proofs.Ytkhbpjhlekldpaa.PLift
open Go.RowKit Go.Proofs.Ytkhbpjhlekldpaa.Short Go.Proofs.YtkhbpjhlekldpaaW.PrintWords Go.Proofs.YtkhbpjhlekldpaaW.PrintLast Go.Proofs.YtkhbpjhlekldpaaW.PrintMore
attribute [local go_sem] max2_int min2_int max_two min_two max_three min_three max_four min_four   -- for this text's walks alone
set_option linter.unusedVariables false
set_option linter.unusedSimpArgs false

/-! ### lift_Up: function 21 -/
def lift_Up.l0 : Nat → List (S64) → List (S64) → List Int → Int → Int → Option ((List (S64)))
 | 0, _, _, _, _, _ => none
 | k + 1, x1, x5, x9, x10, x11 => if x11 < x10 then (if 0 ≤ x11 then (if x11 < (x9.length : Int) then (if (rd x9 x11) ≥ 0 then (if (rd x9 x11) < (x1.length : Int) then (if 0 ≤ (rd x9 x11) then (if ([] : List Int).length + ((rd_T64 x1 (rd x9 x11)).f2).length < 17592186044416 then (if x5.length < 4398046511104 then (lift_Up.l0 k x1 (x5 ++ [(⟨(rd_T64 x1 (rd x9 x11)).f0, (rd_T64 x1 (rd x9 x11)).f1, (([] : List Int) ++ ((rd_T64 x1 (rd x9 x11)).f2))⟩ : S64)]) x9 x10 (wrap64 (x11 + 1))) else (none)) else (none)) else (none)) else (if x5.length < 4398046511104 then (lift_Up.l0 k x1 (x5 ++ [(⟨false, false, ([] : List Int)⟩ : S64)]) x9 x10 (wrap64 (x11 + 1))) else (none))) else (if x5.length < 4398046511104 then (lift_Up.l0 k x1 (x5 ++ [(⟨false, false, ([] : List Int)⟩ : S64)]) x9 x10 (wrap64 (x11 + 1))) else (none))) else (none)) else (none)) else (some x5)
def lift_Up.f (k : Nat) (l0 : List Int) (l1 : List (S64)) : Option ((List (S64))) := lift_Up.l0 k l1 ([] : List (S64)) l0 (l0.length : Int) 0
theorem lift_Up.mono_l : ∀ k, (∀ y0 y1 y2 y3 y4, LeO (lift_Up.l0 k y0 y1 y2 y3 y4) (lift_Up.l0 (k + 1) y0 y1 y2 y3 y4))
 | 0 => fun _ _ _ _ _ r h => by simp [lift_Up.l0] at h
 | k + 1 => by
  have ih0 := lift_Up.mono_l k
  ·intro y0 y1 y2 y3 y4
   unfold lift_Up.l0
   repeat' first
   | (with_reducible exact ih0 _ _ _ _ _)
   | (with_reducible exact LeO.refl _)
   | (with_reducible exact LeO.none _)
   | (with_reducible refine LeO.ite ?_ ?_)
   | (with_reducible refine LeO.bind ?_ (fun _ => ?_))
   | exact ih0 _ _ _ _ _
   | exact LeO.none _
   | refine LeO.ite ?_ ?_
   | refine LeO.bind ?_ (fun _ => ?_)
theorem lift_Up.mono : ∀ a0 a1 k, LeO (lift_Up.f k a0 a1) (lift_Up.f (k + 1) a0 a1) := by
 intro a0 a1 k
 have ih0 := lift_Up.mono_l k
 unfold lift_Up.f
 repeat' first
   | (with_reducible exact ih0 _ _ _ _ _)
   | (with_reducible exact LeO.refl _)
   | (with_reducible exact LeO.none _)
   | (with_reducible refine LeO.ite ?_ ?_)
   | (with_reducible refine LeO.bind ?_ (fun _ => ?_))
   | exact ih0 _ _ _ _ _
   | exact LeO.none _
   | refine LeO.ite ?_ ?_
   | refine LeO.bind ?_ (fun _ => ?_)
set_option maxHeartbeats 8000000 in
set_option maxRecDepth 100000 in
theorem lift_Up.calls (k : Nat) (A0 : Option Addr) (c0 : Nat) (l0 : List Int) (A1 : Option Addr) (c1 : Nat) (l1 : List (S64)) (r : List (S64)) (w : World) (hr0 : Kd.C (Kd.int .i64) w A0 l0.length l0) (hc0 : l0.length ≤ c0) (hr1 : Kd.C k64 w A1 l1.length l1) (hc1 : l1.length ≤ c1) (h : lift_Up.f k l0 l1 = some r) :
  Calls Try.prog 21 #[.slice A0 l0.length c0, .slice A1 l1.length c1] w fun e w' => ∃ v0_ : Value, e = .returned (v0_) ∧ Kd.S k64 64 w' w.heap.size (fun _ => True) v0_ r ∧ Below w.heap.size w w' := by
 have hu64 := Try.underlying64
 have HR0 := Aside0.mk hr0
 have HC0 := Aside0.mk hc0
 clear hr0 hc0
 have HR1 := Aside0.mk hr1
 have HC1 := Aside0.mk hc1
 clear hr1 hc1
 have HB := Aside0.mk (Below.refl w.heap.size w)
 have H : (lift_Up.l0 k l1 ([] : List (S64)) l0 (l0.length : Int) 0) = some r := h
 clear h
 have H' := Aside0.mk H
 clear H
 go_enter Try.func21, Try.ntmps21
 go_wp2
 go_loopg [5, 11] k (fun kq v5 v11 w' => ∃ (x5_1 : List (S64)) (x11_1 : Int), v11 = .int .i64 x11_1 ∧ Aside0 (lift_Up.l0 kq l1 x5_1 l0 (l0.length : Int) x11_1 = some r) ∧ Aside0 (kq ≤ k) ∧ Aside0 (Kd.S k64 64 w' w.heap.size (fun _ => True) v5 x5_1) ∧ Aside0 (Below w.heap.size w w'))
 case atStart => exact ⟨(([] : List (S64))), (0), (by first | rfl | (simp; done) | (simp [*]; done)), H', ⟨Nat.le_refl _⟩, ⟨by first | exact Kd.S_nil _ _ _ _ _ | exact Kd.N_nil _ _ _ _ _ | exact Kd.V_nil _ _ _ _ _ | exact Kd.Q_nil _ _ _ _ _ | exact Kd.R_nil _ _ _ _ _⟩, ⟨by repeat (first | (with_reducible first | exact HB.out | apply below_alloc | apply pw_below_drewN | apply below_drew1) | exact HB.out)⟩⟩
 case round =>
  clear H'
  try clear c1
  try clear c2
  try clear p2
  obtain ⟨x5_1, x11_1, rfl, HA, HK1, HO_5, HB⟩ := hrel
  cases gk with
  | zero => exact absurd HA.out (by simp [lift_Up.l0])
  | succ k1 =>
   have H := HA.out
   clear HA
   simp only [lift_Up.l0] at H
   by_cases c3 : x11_1 < (l0.length : Int)
   ·rw [if_pos c3] at H
    have c3b0 : decide (x11_1 < (l0.length : Int)) = true := decide_eq_true c3
    clear c3
    by_cases c4 : 0 ≤ x11_1
    ·rw [if_pos c4] at H
     have c4b0 : decide (0 ≤ x11_1) = true := decide_eq_true c4
     clear c4
     by_cases c5 : x11_1 < (l0.length : Int)
     ·rw [if_pos c5] at H
      have c5b0 : decide (x11_1 < (l0.length : Int)) = true := decide_eq_true c5
      clear c5
      by_cases c6 : (rd l0 x11_1) ≥ 0
      ·rw [if_pos c6] at H
       have c6b0 : decide (0 ≤ (rd l0 x11_1)) = true := decide_eq_true c6
       clear c6
       by_cases c7 : (rd l0 x11_1) < (l1.length : Int)
       ·rw [if_pos c7] at H
        have c7b0 : decide ((rd l0 x11_1) < (l1.length : Int)) = true := decide_eq_true c7
        clear c7
        by_cases c8 : 0 ≤ (rd l0 x11_1)
        ·rw [if_pos c8] at H
         have c8b0 : decide (0 ≤ (rd l0 x11_1)) = true := decide_eq_true c8
         clear c8
         by_cases c9 : ([] : List Int).length + ((rd_T64 l1 (rd l0 x11_1)).f2).length < 17592186044416
         ·rw [if_pos c9] at H
          have LMc9 := Aside0.mk c9
          clear c9
          obtain ⟨y104, hy104⟩ : ∃ y_ : List Int, y_ = (([] : List Int) ++ ((rd_T64 l1 (rd l0 x11_1)).f2)) := ⟨_, rfl⟩
          replace H : (if x5_1.length < 4398046511104 then (lift_Up.l0 k1 l1 (x5_1 ++ [(⟨(rd_T64 l1 (rd l0 x11_1)).f0, (rd_T64 l1 (rd l0 x11_1)).f1, y104⟩ : S64)]) l0 (l0.length : Int) (wrap64 (x11_1 + 1))) else (none)) = some r := by first | (rw [hy104]; with_reducible exact H) | (have H2_ := (Option.bind_some _ _).symm.trans H; rw [hy104]; with_reducible exact H2_) | (have H2_ := (Option.bind_some _ _).symm.trans H; with_reducible exact H2_) | with_reducible exact H | (rw [hy104]; exact H) | exact H
          have Ny104 := Aside0.mk hy104
          clear hy104
          by_cases c10 : x5_1.length < 4398046511104
          ·rw [if_pos c10] at H
           have LMc10 := Aside0.mk c10
           clear c10
           obtain ⟨y107, hy107⟩ : ∃ y_ : List (S64), y_ = (x5_1 ++ [(⟨(rd_T64 l1 (rd l0 x11_1)).f0, (rd_T64 l1 (rd l0 x11_1)).f1, y104⟩ : S64)]) := ⟨_, rfl⟩
           replace H : (lift_Up.l0 k1 l1 y107 l0 (l0.length : Int) (wrap64 (x11_1 + 1))) = some r := by first | (rw [hy107]; with_reducible exact H) | (have H2_ := (Option.bind_some _ _).symm.trans H; rw [hy107]; with_reducible exact H2_) | (have H2_ := (Option.bind_some _ _).symm.trans H; with_reducible exact H2_) | with_reducible exact H | (rw [hy107]; exact H) | exact H
           have Ny107 := Aside0.mk hy107
           clear hy107
           have H' := Aside0.mk H
           clear H
           have p101 : 0 ≤ (x11_1 : Int) := of_decide_eq_true (by first | (with_reducible assumption) | assumption)
           have q101 : x11_1 < (l0.length : Int) := of_decide_eq_true (by first | (with_reducible assumption) | assumption)
           obtain ⟨ad101, e101, hx101_0⟩ := Kd.at_int HR0.out x11_1 p101 q101
           cases e101
           replace hx101_0 := (HB.out.cell (World.block_lt_of_cell? w _ hx101_0)).trans hx101_0
           replace p101 := eq_true p101
           replace q101 := eq_true q101
           go_wp2_with (first | ((with_reducible refine gate_dst (N := 8) rfl ?_); (try (refine gate_guard (by rfl) ?_; dsimp only)); refine bx 8 (cs := #[.bool false, .bool false, .slice none 0 0]) (t := 64) (h := ?_); intro gb102 hg w11 hbox hb; have BK102 := Aside0.mk hbox; have GW102 : Aside0 (w.heap.size ≤ gb102) := bge hg; have GE102 : Aside0 (w.heap.size ≤ gb102) := bge hg; replace HO_5 := Aside0.mk (Kd.S_below (Kd.S_elderB (kS HO_5) gb102 (Nat.le_of_eq hg.symm)) hb); replace HB := bst hb; clear hb hbox hg; have p103 : 0 ≤ ((rd l0 x11_1) : Int) := of_decide_eq_true (by first | (with_reducible assumption) | assumption); have q103 : (rd l0 x11_1) < (l1.length : Int) := of_decide_eq_true (by first | (with_reducible assumption) | assumption); obtain ⟨ad103, A103_2, c103_2, e103, hx103_0, hx103_1, hx103_2, hl103_2, hi103_2⟩ := at_T64 HR1.out (rd l0 x11_1) p103 q103; cases e103; replace hx103_0 := (HB.out.cell (World.block_lt_of_cell? w _ hx103_0)).trans hx103_0; replace hx103_1 := (HB.out.cell (World.block_lt_of_cell? w _ hx103_1)).trans hx103_1; replace hx103_2 := (HB.out.cell (World.block_lt_of_cell? w _ hx103_2)).trans hx103_2; have HR103_2 := Aside0.mk hi103_2; have HC103_2 := Aside0.mk hl103_2; clear hi103_2 hl103_2; replace p103 := eq_true p103; replace q103 := eq_true q103; obtain ⟨hcz12_0, hcz12_1, hcz12_2, hfz12_0, hfz12_1, hfz12_2⟩ := bc3 BK102) | ((with_reducible refine gate_builtin (b := .append) (xs := #[.const (.slice none 0 0), .tmp 28]) rfl ?_); (try (refine gate_guard (by rfl) ?_; dsimp only)); at_builtin; refine Kd.R_append_rows (Kd.int .i64) (w0 := w) w.heap.size rfl (.const (.slice none 0 0)) (.tmp 28) 29 3 (.int .i64 0) 8 rfl Try.underlying29 info3 rfl (by decide) (by omega) (.slice none 0 0) ([] : List Int) ((rd_T64 l1 (rd l0 x11_1)).f2) _ _ _ (fun _ => True) (fun _ => False) rfl rfl ?aO ?aR (fun _ _ h => h) (fun _ h => h.elim) ?aF ?aB ?aS ?aL ?_; (case aR => exact Kd.C_below HR103_2.out bel); (case aB => exact bel); (case aF => exact (fun _ _ => trivial)); (case aO => exact ((Kd.R_nil _ _ _ _ (fun _ => True)))); (case aS => exact (below_size bel)); (case aL => have := LMc9.out; omega); intro v105 w13 ho hb hg hat; rw [← Ny104.out] at ho; have HO106 := Aside0.mk ho; replace HO_5 := Aside0.mk (Kd.S_after (Kd.S_apart_nil (by (with_reducible repeat (first | apply Kd.S_alloc | apply Kd.S_drewN | apply Kd.S_drew)); exact (Kd.S_mono (Kd.S_far (p := ⟨gb102, 2, none⟩) (Kd.S_far (p := ⟨gb102, 1, none⟩) (Kd.S_far (p := ⟨gb102, 0, none⟩) (Kd.S_mono HO_5.out (fun k_ hk => (⟨hk, hk.2⟩ : _ ∧ k_ ≠ gb102))) (fun _ hk => hk.2) (.bool ((rd_T64 l1 (rd l0 x11_1)).f0))) (fun _ hk => hk.2) (.bool ((rd_T64 l1 (rd l0 x11_1)).f1))) (fun _ hk => hk.2) (.slice A103_2 ((rd_T64 l1 (rd l0 x11_1)).f2).length c103_2)) (fun _ h_ => h_.1)))) hg hat); replace BK102 := Aside0.mk (blk_grown (g := gb102) (o := .cells #[.bool ((rd_T64 l1 (rd l0 x11_1)).f0), .bool ((rd_T64 l1 (rd l0 x11_1)).f1), .slice A103_2 ((rd_T64 l1 (rd l0 x11_1)).f2).length c103_2] 64 (0, 0)) (bkp BK102) hg (by simp [Value.ownBlock])); replace HB := Aside0.mk (hb); clear ho hb hg hat; obtain ⟨Ao14, co14, eo14⟩ := Kd.R_slice HO106.out; subst eo14; obtain ⟨hcz15_0, hcz15_1, hcz15_2, hfz15_0, hfz15_1, hfz15_2⟩ := bc3 BK102) | ((with_reducible refine gate_store (t := 29) (p := 30) rfl ?_); refine store_event (t := 29) (p := 30) (v := ?vo_w16) (w1 := (w13.setCell ⟨gb102, 2, none⟩ (.slice Ao14 y104.length co14))) ?hg ?ho ?hn ?hr ?_; (case ho => rfl); (case hg => rfl); (case hn => rfl); (case hr => first | (go_simp; done) | (go_simp; rfl)); intro w16 hw; replace HO_5 : Aside0 (Kd.S k64 64 w16 w.heap.size (fun k_ => some k_ ≠ (.slice Ao14 y104.length co14 : Value).ownBlock ∧ k_ ≠ gb102) u5 x5_1) := ⟨(by rw [hw]; exact (by (with_reducible repeat (first | apply Kd.S_alloc | apply Kd.S_drewN | apply Kd.S_drew)); exact Kd.S_mono (Kd.S_far (p := ⟨gb102, 2, none⟩) (Kd.S_mono HO_5.out (fun k_ hk => (⟨hk, hk.1.2⟩ : _ ∧ k_ ≠ gb102))) (fun _ hk => hk.2) (.slice Ao14 y104.length co14)) (fun _ hk => ⟨hk.1.2, hk.1.1.2⟩)))⟩; replace HO106 : Aside0 (Kd.R (Kd.int .i64) 3 w16 w.heap.size (fun _ => True) (.slice Ao14 y104.length co14) y104) := ⟨(by rw [hw]; exact (by (with_reducible repeat (first | apply Kd.R_alloc | apply Kd.R_drewN | apply Kd.R_drew)); exact Kd.R_mono (Kd.R_far (p := ⟨gb102, 2, none⟩) (Kd.R_types HO106.out BK102.out (by decide)) (fun _ hk => hk.2) (.slice Ao14 y104.length co14)) (fun _ hk => trivial)))⟩; replace BK102 : Aside0 (w16.heap[gb102]? = some (.cells #[.bool ((rd_T64 l1 (rd l0 x11_1)).f0), .bool ((rd_T64 l1 (rd l0 x11_1)).f1), .slice Ao14 y104.length co14] 64 (0, 0))) := ⟨(by rw [hw]; exact (bkp BK102))⟩; replace HB : Aside0 (Below w.heap.size w w16) := ⟨(by rw [hw]; exact bel)⟩; clear hw; obtain ⟨hcz17_0, hcz17_1, hcz17_2, hfz17_0, hfz17_1, hfz17_2⟩ := bc3 BK102) | ((with_reducible refine gate_builtin (b := .append) (xs := #[.tmp 31, .tmp 33]) rfl ?_); (try (refine gate_guard (by rfl) ?_; dsimp only)); at_builtin; refine Kd.S_append k64 (w0 := w) w.heap.size rfl (.tmp 31) (.tmp 33) 59 64 (.agg #[(.bool false), (.bool false), (.slice none 0 0)]) 32 rfl Try.underlying59 info64 rfl (by decide) (by omega) u5 x5_1 (⟨(rd_T64 l1 (rd l0 x11_1)).f0, (rd_T64 l1 (rd l0 x11_1)).f1, y104⟩ : S64) [.bool ((rd_T64 l1 (rd l0 x11_1)).f0), .bool ((rd_T64 l1 (rd l0 x11_1)).f1), .slice Ao14 y104.length co14] (fun k_ => k_ ≠ gb102) (fun k_ => some k_ = (.slice Ao14 y104.length co14 : Value).ownBlock) rfl rfl ?aP (fun k_ hk_ => ((Kd.R_mono (ok' := fun k_ => ((fun k_ => k_ ≠ gb102)) k_ ∧ some k_ ≠ (u5 : Value).ownBlock) (Kd.R_types (Kd.R_apart' (HO106.out) (Kd.S_typed HO_5.out) (by decide)) BK102.out (by decide)) (fun k_ hk => ⟨hk.2, hk.1.2⟩))).1 k_ hk_.symm) ?aF ?aO ?aB ?aS ?aL ?_; (case aP => exact k64_mkM _ _ _ (⟨(rd_T64 l1 (rd l0 x11_1)).f0, (rd_T64 l1 (rd l0 x11_1)).f1, y104⟩ : S64) (Kd.R_mono (Kd.R_tight rfl (Kd.R_mono (ok' := fun k_ => ((fun k_ => k_ ≠ gb102)) k_ ∧ some k_ ≠ (u5 : Value).ownBlock) (Kd.R_types (Kd.R_apart' (HO106.out) (Kd.S_typed HO_5.out) (by decide)) BK102.out (by decide)) (fun k_ hk => ⟨hk.2, hk.1.2⟩))) (fun _ h_ => h_))); (case aB => exact bel); (case aF => exact (fun k_ hk => Kd.freshB (g := gb102) (o := .cells #[.bool ((rd_T64 l1 (rd l0 x11_1)).f0), .bool ((rd_T64 l1 (rd l0 x11_1)).f1), .slice Ao14 y104.length co14] 64 (0, 0)) (bkq BK102) k_ hk)); (case aO => exact (by (with_reducible repeat (first | apply Kd.S_alloc | apply Kd.S_drewN | apply Kd.S_drew)); exact Kd.S_mono HO_5.out (fun k_ hk => ⟨hk.2, fun e_ => hk.1 e_⟩))); (case aS => exact (below_size bel)); (case aL => have := LMc10.out; omega); intro v108 w18 ho hb hg hat; rw [← Ny107.out] at ho; have HO109 := Aside0.mk ho; replace BK102 := Aside0.mk (blk_grown (g := gb102) (o := .cells #[.bool ((rd_T64 l1 (rd l0 x11_1)).f0), .bool ((rd_T64 l1 (rd l0 x11_1)).f1), .slice Ao14 y104.length co14] 64 (0, 0)) (bkq BK102) hg (Kd.S_away HO_5.out (fun _ hk => hk.2))); replace HB := Aside0.mk (hb); clear HO_5 HO106; clear ho hb hg hat))
           go_roundg k1
           case measure => have := HK1.out; omega
           case rel => exact ⟨(y107), (wrap64 (x11_1 + 1)), (by first | rfl | (simp; done) | (simp [*]; done)), H', ⟨by have := HK1.out; omega⟩, ⟨by (with_reducible repeat (first | apply Kd.S_alloc | apply Kd.S_drewN | apply Kd.S_drew)); exact Kd.S_mono HO109.out (fun _ hk => trivial)⟩, ⟨by repeat (first | (with_reducible first | exact HB.out | apply below_alloc | apply pw_below_drewN | apply below_drew1 | refine below_set ?_ GE102.out) | exact HB.out)⟩⟩
          ·rw [if_neg c10] at H
           exact absurd H (by simp)
         ·rw [if_neg c9] at H
          exact absurd H (by simp)
        ·rw [if_neg c8] at H
         exact absurd H (by simp)
       ·rw [if_neg c7] at H
        have c7b0 : decide ((rd l0 x11_1) < (l1.length : Int)) = false := decide_eq_false c7
        clear c7
        by_cases c19 : x5_1.length < 4398046511104
        ·rw [if_pos c19] at H
         have LMc19 := Aside0.mk c19
         clear c19
         obtain ⟨y110, hy110⟩ : ∃ y_ : List (S64), y_ = (x5_1 ++ [(⟨false, false, ([] : List Int)⟩ : S64)]) := ⟨_, rfl⟩
         replace H : (lift_Up.l0 k1 l1 y110 l0 (l0.length : Int) (wrap64 (x11_1 + 1))) = some r := by first | (rw [hy110]; with_reducible exact H) | (have H2_ := (Option.bind_some _ _).symm.trans H; rw [hy110]; with_reducible exact H2_) | (have H2_ := (Option.bind_some _ _).symm.trans H; with_reducible exact H2_) | with_reducible exact H | (rw [hy110]; exact H) | exact H
         have Ny110 := Aside0.mk hy110
         clear hy110
         have H' := Aside0.mk H
         clear H
         have p101 : 0 ≤ (x11_1 : Int) := of_decide_eq_true (by first | (with_reducible assumption) | assumption)
         have q101 : x11_1 < (l0.length : Int) := of_decide_eq_true (by first | (with_reducible assumption) | assumption)
         obtain ⟨ad101, e101, hx101_0⟩ := Kd.at_int HR0.out x11_1 p101 q101
         cases e101
         replace hx101_0 := (HB.out.cell (World.block_lt_of_cell? w _ hx101_0)).trans hx101_0
         replace p101 := eq_true p101
         replace q101 := eq_true q101
         go_wp2_with (first | ((with_reducible refine gate_dst (N := 8) rfl ?_); (try (refine gate_guard (by rfl) ?_; dsimp only)); refine bx 8 (cs := #[.bool false, .bool false, .slice none 0 0]) (t := 64) (h := ?_); intro gb102 hg w20 hbox hb; have BK102 := Aside0.mk hbox; have GW102 : Aside0 (w.heap.size ≤ gb102) := bge hg; have GE102 : Aside0 (w.heap.size ≤ gb102) := bge hg; replace HO_5 := Aside0.mk (Kd.S_below (Kd.S_elderB (kS HO_5) gb102 (Nat.le_of_eq hg.symm)) hb); replace HB := bst hb; clear hb hbox hg; obtain ⟨hcz21_0, hcz21_1, hcz21_2, hfz21_0, hfz21_1, hfz21_2⟩ := bc3 BK102) | ((with_reducible refine gate_builtin (b := .append) (xs := #[.tmp 31, .tmp 33]) rfl ?_); (try (refine gate_guard (by rfl) ?_; dsimp only)); at_builtin; refine Kd.S_append k64 (w0 := w) w.heap.size rfl (.tmp 31) (.tmp 33) 59 64 (.agg #[(.bool false), (.bool false), (.slice none 0 0)]) 32 rfl Try.underlying59 info64 rfl (by decide) (by omega) u5 x5_1 (⟨false, false, ([] : List Int)⟩ : S64) [.bool false, .bool false, .slice none 0 0] (fun k_ => k_ ≠ gb102) (fun _ => False) rfl rfl ?aP (fun k_ hk_ => hk_.elim) ?aF ?aO ?aB ?aS ?aL ?_; (case aP => exact k64_mkM _ _ _ (⟨false, false, ([] : List Int)⟩ : S64) (Kd.R_nil _ _ _ _ _)); (case aB => exact bel); (case aF => exact (fun k_ hk => Kd.freshB (bkq BK102) k_ hk)); (case aO => exact (by (with_reducible repeat (first | apply Kd.S_alloc | apply Kd.S_drewN | apply Kd.S_drew)); exact Kd.S_mono HO_5.out (fun k_ hk => ⟨hk.2, fun e_ => e_⟩))); (case aS => exact (below_size bel)); (case aL => have := LMc19.out; omega); intro v111 w22 ho hb hg hat; rw [← Ny110.out] at ho; have HO112 := Aside0.mk ho; replace BK102 := Aside0.mk (blk_grown (bkq BK102) hg (Kd.S_away HO_5.out (fun _ hk => hk.2))); replace HB := Aside0.mk (hb); clear HO_5; clear ho hb hg hat))
         go_roundg k1
         case measure => have := HK1.out; omega
         case rel => exact ⟨(y110), (wrap64 (x11_1 + 1)), (by first | rfl | (simp; done) | (simp [*]; done)), H', ⟨by have := HK1.out; omega⟩, ⟨by (with_reducible repeat (first | apply Kd.S_alloc | apply Kd.S_drewN | apply Kd.S_drew)); exact Kd.S_mono HO112.out (fun _ hk => trivial)⟩, ⟨by repeat (first | (with_reducible first | exact HB.out | apply below_alloc | apply pw_below_drewN | apply below_drew1 | refine below_set ?_ GE102.out) | exact HB.out)⟩⟩
        ·rw [if_neg c19] at H
         exact absurd H (by simp)
      ·rw [if_neg c6] at H
       have c6b0 : decide (0 ≤ (rd l0 x11_1)) = false := decide_eq_false c6
       clear c6
       by_cases c23 : x5_1.length < 4398046511104
       ·rw [if_pos c23] at H
        have LMc23 := Aside0.mk c23
        clear c23
        obtain ⟨y113, hy113⟩ : ∃ y_ : List (S64), y_ = (x5_1 ++ [(⟨false, false, ([] : List Int)⟩ : S64)]) := ⟨_, rfl⟩
        replace H : (lift_Up.l0 k1 l1 y113 l0 (l0.length : Int) (wrap64 (x11_1 + 1))) = some r := by first | (rw [hy113]; with_reducible exact H) | (have H2_ := (Option.bind_some _ _).symm.trans H; rw [hy113]; with_reducible exact H2_) | (have H2_ := (Option.bind_some _ _).symm.trans H; with_reducible exact H2_) | with_reducible exact H | (rw [hy113]; exact H) | exact H
        have Ny113 := Aside0.mk hy113
        clear hy113
        have H' := Aside0.mk H
        clear H
        have p101 : 0 ≤ (x11_1 : Int) := of_decide_eq_true (by first | (with_reducible assumption) | assumption)
        have q101 : x11_1 < (l0.length : Int) := of_decide_eq_true (by first | (with_reducible assumption) | assumption)
        obtain ⟨ad101, e101, hx101_0⟩ := Kd.at_int HR0.out x11_1 p101 q101
        cases e101
        replace hx101_0 := (HB.out.cell (World.block_lt_of_cell? w _ hx101_0)).trans hx101_0
        replace p101 := eq_true p101
        replace q101 := eq_true q101
        go_wp2_with (first | ((with_reducible refine gate_dst (N := 8) rfl ?_); (try (refine gate_guard (by rfl) ?_; dsimp only)); refine bx 8 (cs := #[.bool false, .bool false, .slice none 0 0]) (t := 64) (h := ?_); intro gb102 hg w24 hbox hb; have BK102 := Aside0.mk hbox; have GW102 : Aside0 (w.heap.size ≤ gb102) := bge hg; have GE102 : Aside0 (w.heap.size ≤ gb102) := bge hg; replace HO_5 := Aside0.mk (Kd.S_below (Kd.S_elderB (kS HO_5) gb102 (Nat.le_of_eq hg.symm)) hb); replace HB := bst hb; clear hb hbox hg; obtain ⟨hcz25_0, hcz25_1, hcz25_2, hfz25_0, hfz25_1, hfz25_2⟩ := bc3 BK102) | ((with_reducible refine gate_builtin (b := .append) (xs := #[.tmp 31, .tmp 33]) rfl ?_); (try (refine gate_guard (by rfl) ?_; dsimp only)); at_builtin; refine Kd.S_append k64 (w0 := w) w.heap.size rfl (.tmp 31) (.tmp 33) 59 64 (.agg #[(.bool false), (.bool false), (.slice none 0 0)]) 32 rfl Try.underlying59 info64 rfl (by decide) (by omega) u5 x5_1 (⟨false, false, ([] : List Int)⟩ : S64) [.bool false, .bool false, .slice none 0 0] (fun k_ => k_ ≠ gb102) (fun _ => False) rfl rfl ?aP (fun k_ hk_ => hk_.elim) ?aF ?aO ?aB ?aS ?aL ?_; (case aP => exact k64_mkM _ _ _ (⟨false, false, ([] : List Int)⟩ : S64) (Kd.R_nil _ _ _ _ _)); (case aB => exact bel); (case aF => exact (fun k_ hk => Kd.freshB (bkq BK102) k_ hk)); (case aO => exact (by (with_reducible repeat (first | apply Kd.S_alloc | apply Kd.S_drewN | apply Kd.S_drew)); exact Kd.S_mono HO_5.out (fun k_ hk => ⟨hk.2, fun e_ => e_⟩))); (case aS => exact (below_size bel)); (case aL => have := LMc23.out; omega); intro v114 w26 ho hb hg hat; rw [← Ny113.out] at ho; have HO115 := Aside0.mk ho; replace BK102 := Aside0.mk (blk_grown (bkq BK102) hg (Kd.S_away HO_5.out (fun _ hk => hk.2))); replace HB := Aside0.mk (hb); clear HO_5; clear ho hb hg hat))
        go_roundg k1
        case measure => have := HK1.out; omega
        case rel => exact ⟨(y113), (wrap64 (x11_1 + 1)), (by first | rfl | (simp; done) | (simp [*]; done)), H', ⟨by have := HK1.out; omega⟩, ⟨by (with_reducible repeat (first | apply Kd.S_alloc | apply Kd.S_drewN | apply Kd.S_drew)); exact Kd.S_mono HO115.out (fun _ hk => trivial)⟩, ⟨by repeat (first | (with_reducible first | exact HB.out | apply below_alloc | apply pw_below_drewN | apply below_drew1 | refine below_set ?_ GE102.out) | exact HB.out)⟩⟩
       ·rw [if_neg c23] at H
        exact absurd H (by simp)
     ·rw [if_neg c5] at H
      exact absurd H (by simp)
    ·rw [if_neg c4] at H
     exact absurd H (by simp)
   ·rw [if_neg c3] at H
    have c3b0 : decide (x11_1 < (l0.length : Int)) = false := decide_eq_false c3
    clear c3
    obtain rfl := Option.some.inj H
    go_wp2
    go_ret
    exact ⟨_, by first | rfl | (simp [errW_none, errW_some] <;> rfl) | (simp [*, errW_none, errW_some] <;> rfl), by (with_reducible repeat (first | apply Kd.S_alloc | apply Kd.S_drewN | apply Kd.S_drew)); exact HO_5.out, by repeat (first | (with_reducible first | exact HB.out | apply below_alloc | apply pw_below_drewN | apply below_drew1) | exact HB.out)⟩

end Go.Proofs.Ytkhbpjhlekldpaa.PLift
