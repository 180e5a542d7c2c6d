import Derived.Test.YtcagkdgpoijkoaaShort
import Derived.Test.YtcagkdgpoijkoaaSh2
import Derived.Test.YtcagkdgpoijkoaaPLmx0
namespace Go.Proofs.Ytcagkdgpoijkoaa.PLm
open Go.RowKit Go.Proofs.Ytcagkdgpoijkoaa.Short Go.Proofs.YtcagkdgpoijkoaaW.PrintWords Go.Proofs.YtcagkdgpoijkoaaW.PrintLast Go.Proofs.YtcagkdgpoijkoaaW.PrintMore
attribute [local go_sem] max2_int min2_int max_two min_two max_three min_three max_four min_four
set_option linter.unusedVariables false
set_option linter.unusedSimpArgs false
def lift_Up.l0 : Nat → List (S61) → List (S61) → List Int → Int → Int → Option ((List (S61)))
 | 0, _, _, _, _, _ => none
 | k + 1, x1, x5, x9, x10, x11 => if x11 < x10 then (if 0 ≤ x11 then (if x11 < (x9.length : Int) then (if (rd x9 x11) ≥ 0 then (if (rd x9 x11) < (x1.length : Int) then (if 0 ≤ (rd x9 x11) then (if ([] : List Int).length + ((rd_T61 x1 (rd x9 x11)).f2).length < 17592186044416 then (if x5.length < 4398046511104 then (lift_Up.l0 k x1 (x5 ++ [(⟨(rd_T61 x1 (rd x9 x11)).f0, (rd_T61 x1 (rd x9 x11)).f1, (([] : List Int) ++ ((rd_T61 x1 (rd x9 x11)).f2))⟩ : S61)]) x9 x10 (wrap64 (x11 + 1))) else (none)) else (none)) else (none)) else (if x5.length < 4398046511104 then (lift_Up.l0 k x1 (x5 ++ [(⟨false, false, ([] : List Int)⟩ : S61)]) x9 x10 (wrap64 (x11 + 1))) else (none))) else (if x5.length < 4398046511104 then (lift_Up.l0 k x1 (x5 ++ [(⟨false, false, ([] : List Int)⟩ : S61)]) x9 x10 (wrap64 (x11 + 1))) else (none))) else (none)) else (none)) else (some x5)
def lift_Up.f (k : Nat) (l0 : List Int) (l1 : List (S61)) : Option ((List (S61))) := lift_Up.l0 k l1 ([] : List (S61)) l0 (l0.length : Int) 0
theorem lift_Up.mono_l : ∀ k, (∀ y0 y1 y2 y3 y4, LeO (lift_Up.l0 k y0 y1 y2 y3 y4) (lift_Up.l0 (k + 1) y0 y1 y2 y3 y4))
 | 0 => fun _ _ _ _ _ r h => by simp [lift_Up.l0] at h
 | k + 1 => by
  have ih0 := lift_Up.mono_l k
  ·intro y0 y1 y2 y3 y4
   unfold lift_Up.l0; repeat' first
   | (with_reducible exact ih0 _ _ _ _ _)
   | (with_reducible exact LeO.refl _)
   | (with_reducible exact LeO.none _)
   | (with_reducible refine LeO.ite ?_ ?_)
   | (with_reducible refine LeO.bind ?_ (fun _ => ?_))
   | exact ih0 _ _ _ _ _
   | exact LeO.none _
   | refine LeO.ite ?_ ?_
   | refine LeO.bind ?_ (fun _ => ?_)
theorem lift_Up.mono : ∀ a0 a1 k, LeO (lift_Up.f k a0 a1) (lift_Up.f (k + 1) a0 a1) := by
 intro a0 a1 k; have ih0 := lift_Up.mono_l k; unfold lift_Up.f
 repeat' first
   | (with_reducible exact ih0 _ _ _ _ _)
   | (with_reducible exact LeO.refl _)
   | (with_reducible exact LeO.none _)
   | (with_reducible refine LeO.ite ?_ ?_)
   | (with_reducible refine LeO.bind ?_ (fun _ => ?_))
   | exact ih0 _ _ _ _ _
   | exact LeO.none _
   | refine LeO.ite ?_ ?_
   | refine LeO.bind ?_ (fun _ => ?_)
set_option maxHeartbeats 8000000 in
set_option maxRecDepth 100000 in
theorem lift_Up.calls (k : Nat) (A0 : Option Addr) (c0 : Nat) (l0 : List Int) (A1 : Option Addr) (c1 : Nat) (l1 : List (S61)) (r : List (S61)) (w : World) (hr0 : Kd.C (Kd.int .i64) w A0 l0.length l0) (hc0 : l0.length ≤ c0) (hr1 : Kd.C k61 w A1 l1.length l1) (hc1 : l1.length ≤ c1) (h : lift_Up.f k l0 l1 = some r) :
  Calls Try.prog 30 #[.slice A0 l0.length c0, .slice A1 l1.length c1] w fun e w' => ∃ v0_ : Value, e = .returned (v0_) ∧ Kd.S k61 61 w' w.heap.size (fun _ => True) v0_ r ∧ Below w.heap.size w w' := by
 have hu61 := Try.underlying61; have HR0 := A_ hr0; have HC0 := A_ hc0; clear hr0 hc0; have HR1 := A_ hr1; have HC1 := A_ hc1; clear hr1 hc1; have HB := A_ (Below.refl w.heap.size w); unfold lift_Up.f at h; have H := h; clear h; have H' := A_ H; clear H; go_enter Try.func30, Try.ntmps30; go_wp2; go_loopg [5, 11] k (fun kq v5 v11 w' => ∃ (x5_1 : List (S61)) (x11_1 : Int), v11 = .int .i64 x11_1 ∧ Aside0 (lift_Up.l0 kq l1 x5_1 l0 (l0.length : Int) x11_1 = some r) ∧ Aside0 (kq ≤ k) ∧ Aside0 (Kd.S k61 61 w' w.heap.size (fun _ => True) v5 x5_1) ∧ Aside0 (Below w.heap.size w w'))
 case atStart => exact ⟨(([] : List (S61))), (0), eqs, H', ⟨Nat.le_refl _⟩, ⟨by first | exact Kd.S_nil _ _ _ _ _ | exact Kd.N_nil _ _ _ _ _ | exact Kd.V_nil _ _ _ _ _ | exact Kd.Q_nil _ _ _ _ _ | exact Kd.R_nil _ _ _ _ _⟩, ⟨bel⟩⟩
 case round =>
  clear H'; (try clear c1); (try clear p2); obtain ⟨x5_1, x11_1, rfl, HA, HK1, HO_5, HB⟩ := hrel
  cases gk with
  | zero => exact absurd HA.out (by simp [lift_Up.l0])
  | succ k1 =>
   have H := HA.out; clear HA; simp only [lift_Up.l0] at H; by_cases c3 : x11_1 < (l0.length : Int)
   ·rw [if_pos c3] at H
    have c3b0 := decide_eq_true c3; clear c3; by_cases c4 : 0 ≤ x11_1
    ·rw [if_pos c4] at H
     have c4b0 := decide_eq_true c4; clear c4; by_cases c5 : x11_1 < (l0.length : Int)
     ·rw [if_pos c5] at H
      have c5b0 := decide_eq_true c5; clear c5; by_cases c6 : (rd l0 x11_1) ≥ 0
      ·rw [if_pos c6] at H
       have c6b0 : decide (0 ≤ (rd l0 x11_1)) = true := decide_eq_true c6; clear c6; by_cases c7 : (rd l0 x11_1) < (l1.length : Int)
       ·rw [if_pos c7] at H
        have c7b0 := decide_eq_true c7; clear c7; by_cases c8 : 0 ≤ (rd l0 x11_1)
        ·rw [if_pos c8] at H
         have c8b0 := decide_eq_true c8; clear c8; by_cases c9 : ([] : List Int).length + ((rd_T61 l1 (rd l0 x11_1)).f2).length < 17592186044416
         ·rw [if_pos c9] at H
          have LMc9 := A_ c9; clear c9; obtain ⟨y293, hy293⟩ : ∃ y_ : List Int, y_ = (([] : List Int) ++ ((rd_T61 l1 (rd l0 x11_1)).f2)) := ⟨_, rfl⟩; (first | rw [← hy293] at H | (have H2_ := (Option.bind_some _ _).symm.trans H; clear H; have H := H2_; clear H2_; (try rw [← hy293] at H))); have Ny293 := A_ hy293; clear hy293; by_cases c10 : x5_1.length < 4398046511104
          ·rw [if_pos c10] at H
           have LMc10 := A_ c10; clear c10; obtain ⟨y296, hy296⟩ : ∃ y_ : List (S61), y_ = (x5_1 ++ [(⟨(rd_T61 l1 (rd l0 x11_1)).f0, (rd_T61 l1 (rd l0 x11_1)).f1, y293⟩ : S61)]) := ⟨_, rfl⟩; (first | rw [← hy296] at H | (have H2_ := (Option.bind_some _ _).symm.trans H; clear H; have H := H2_; clear H2_; (try rw [← hy296] at H))); have Ny296 := A_ hy296; clear hy296; have H' := A_ H; clear H; have p290 : 0 ≤ (x11_1 : Int) := odt; have q290 : x11_1 < (l0.length : Int) := odt; obtain ⟨ad290, e290, hx290_0⟩ := Kd.at_int HR0.out x11_1 p290 q290; cases e290; replace hx290_0 := hbc HB hx290_0; replace p290 := eq_true p290; replace q290 := eq_true q290
           go_wp2_with (first | ((with_reducible refine gate_dst (N := 8) rfl ?_); (try (refine gate_guard (by rfl) ?_; dsimp only)); refine bx 8 (cs := #[.bool false, .bool false, .slice none 0 0]) (t := 61) (h := ?_); intro gb291 hg w11 hbox hb; have BK291 := A_ hbox; have GW291 : Aside0 (w.heap.size ≤ gb291) := bge hg; replace HO_5 := A_ (Kd.S_below (Kd.S_elderB (kS HO_5) gb291 (Nat.le_of_eq hg.symm)) hb); replace HB := bst hb; clear hb hbox hg; have p292 : 0 ≤ ((rd l0 x11_1) : Int) := odt; have q292 : (rd l0 x11_1) < (l1.length : Int) := odt; obtain ⟨ad292, A292_2, c292_2, e292, hx292_0, hx292_1, hx292_2, hl292_2, hi292_2⟩ := at_T61 HR1.out (rd l0 x11_1) p292 q292; cases e292; replace hx292_0 := hbc HB hx292_0; replace hx292_1 := hbc HB hx292_1; replace hx292_2 := hbc HB hx292_2; have HR292_2 := A_ hi292_2; have HC292_2 := A_ hl292_2; clear hi292_2 hl292_2; replace p292 := eq_true p292; replace q292 := eq_true q292; have hcz12 := bc3 BK291) | ((with_reducible refine gate_builtin (b := .append) (xs := #[.const (.slice none 0 0), .tmp 28]) rfl ?_); (try (refine gate_guard (by rfl) ?_; dsimp only)); at_builtin; refine Kd.R_append_rows (Kd.int .i64) (w0 := w) w.heap.size rfl (.const (.slice none 0 0)) (.tmp 28) 29 3 (.int .i64 0) 8 rfl Try.underlying29 info3 rfl (by decide) (by omega) (.slice none 0 0) ([] : List Int) ((rd_T61 l1 (rd l0 x11_1)).f2) _ _ _ (fun _ => True) (fun _ => False) rfl rfl ?aO ?aR (fun _ _ h => h) (fun _ h => h.elim) ?aF ?aB ?aS ?aL ?_; (case aR => exact Kd.C_below HR292_2.out bel); (case aB => exact bel); (case aF => exact (fun _ _ => trivial)); (case aO => exact ((Kd.R_nil _ _ _ _ (fun _ => True)))); (case aS => exact (below_size bel)); (case aL => have := LMc9.out; omega); intro v294 w13 ho hb hg hat; rw [← Ny293.out] at ho; have HO295 := A_ ho; replace HO_5 := A_ (Kd.S_after (Kd.S_apart_nil (by (with_reducible repeat (first | apply Kd.S_alloc | apply Kd.S_drewN | apply Kd.S_drew)); exact (Kd.S_mono (Kd.S_far (p := ⟨gb291, 2, none⟩) (Kd.S_far (p := ⟨gb291, 1, none⟩) (Kd.S_far (p := ⟨gb291, 0, none⟩) (Kd.S_mono HO_5.out (fun k_ hk => (⟨hk, hk.2⟩ : _ ∧ k_ ≠ gb291))) (fun _ hk => hk.2) (.bool ((rd_T61 l1 (rd l0 x11_1)).f0))) (fun _ hk => hk.2) (.bool ((rd_T61 l1 (rd l0 x11_1)).f1))) (fun _ hk => hk.2) (.slice A292_2 ((rd_T61 l1 (rd l0 x11_1)).f2).length c292_2)) (fun _ h_ => h_.1)))) hg hat); replace BK291 := A_ (blk_grown (g := gb291) (o := .cells #[.bool ((rd_T61 l1 (rd l0 x11_1)).f0), .bool ((rd_T61 l1 (rd l0 x11_1)).f1), .slice A292_2 ((rd_T61 l1 (rd l0 x11_1)).f2).length c292_2] 61 (0, 0)) (bkp BK291) hg (by simp [Value.ownBlock])); replace HB := A_ (hb); clear ho hb hg hat; obtain ⟨Ao14, co14, eo14⟩ := Kd.R_slice HO295.out; subst eo14; have hcz15 := bc3 BK291) | ((with_reducible refine gate_store (t := 29) (p := 30) rfl ?_); refine store_event (t := 29) (p := 30) (v := ?vo_w16) (w1 := (w13.setCell ⟨gb291, 2, none⟩ (.slice Ao14 y293.length co14))) ?hg ?ho ?hn ?hr ?_; (case ho => rfl); (case hg => rfl); (case hn => rfl); (case hr => first | (go_simp; done) | (go_simp; rfl)); intro w16 hw; replace HO_5 : Aside0 (Kd.S k61 61 w16 w.heap.size (fun k_ => some k_ ≠ (.slice Ao14 y293.length co14 : Value).ownBlock ∧ k_ ≠ gb291) u5 x5_1) := ⟨(by rw [hw]; exact (by (with_reducible repeat (first | apply Kd.S_alloc | apply Kd.S_drewN | apply Kd.S_drew)); exact Kd.S_mono (Kd.S_far (p := ⟨gb291, 2, none⟩) (Kd.S_mono HO_5.out (fun k_ hk => (⟨hk, hk.1.2⟩ : _ ∧ k_ ≠ gb291))) (fun _ hk => hk.2) (.slice Ao14 y293.length co14)) (fun _ hk => ⟨hk.1.2, hk.1.1.2⟩)))⟩; replace HO295 : Aside0 (Kd.R (Kd.int .i64) 3 w16 w.heap.size (fun _ => True) (.slice Ao14 y293.length co14) y293) := ⟨(by rw [hw]; exact (by (with_reducible repeat (first | apply Kd.R_alloc | apply Kd.R_drewN | apply Kd.R_drew)); exact Kd.R_mono (Kd.R_far (p := ⟨gb291, 2, none⟩) (Kd.R_types HO295.out BK291.out (by decide)) (fun _ hk => hk.2) (.slice Ao14 y293.length co14)) (fun _ hk => trivial)))⟩; replace BK291 : Aside0 (w16.heap[gb291]? = some (.cells #[.bool ((rd_T61 l1 (rd l0 x11_1)).f0), .bool ((rd_T61 l1 (rd l0 x11_1)).f1), .slice Ao14 y293.length co14] 61 (0, 0))) := ⟨(by rw [hw]; exact (bkp BK291))⟩; replace HB : Aside0 (Below w.heap.size w w16) := ⟨(by rw [hw]; exact bel)⟩; clear hw; have hcz17 := bc3 BK291) | ((with_reducible refine gate_builtin (b := .append) (xs := #[.tmp 31, .tmp 33]) rfl ?_); (try (refine gate_guard (by rfl) ?_; dsimp only)); at_builtin; refine Kd.S_append k61 (w0 := w) w.heap.size rfl (.tmp 31) (.tmp 33) 58 61 (.agg #[(.bool false), (.bool false), (.slice none 0 0)]) 32 rfl Try.underlying58 info61 rfl (by decide) (by omega) u5 x5_1 (⟨(rd_T61 l1 (rd l0 x11_1)).f0, (rd_T61 l1 (rd l0 x11_1)).f1, y293⟩ : S61) [.bool ((rd_T61 l1 (rd l0 x11_1)).f0), .bool ((rd_T61 l1 (rd l0 x11_1)).f1), .slice Ao14 y293.length co14] (fun k_ => k_ ≠ gb291) (fun k_ => some k_ = (.slice Ao14 y293.length co14 : Value).ownBlock) rfl rfl ?aP (fun k_ hk_ => ((Kd.R_mono (ok' := fun k_ => ((fun k_ => k_ ≠ gb291)) k_ ∧ some k_ ≠ (u5 : Value).ownBlock) (Kd.R_types (Kd.R_apart' (HO295.out) (Kd.S_typed HO_5.out) (by decide)) BK291.out (by decide)) (fun k_ hk => ⟨hk.2, hk.1.2⟩))).1 k_ hk_.symm) ?aF ?aO ?aB ?aS ?aL ?_; (case aP => exact k61_mkM _ _ _ (⟨(rd_T61 l1 (rd l0 x11_1)).f0, (rd_T61 l1 (rd l0 x11_1)).f1, y293⟩ : S61) (Kd.R_mono (Kd.R_tight rfl (Kd.R_mono (ok' := fun k_ => ((fun k_ => k_ ≠ gb291)) k_ ∧ some k_ ≠ (u5 : Value).ownBlock) (Kd.R_types (Kd.R_apart' (HO295.out) (Kd.S_typed HO_5.out) (by decide)) BK291.out (by decide)) (fun k_ hk => ⟨hk.2, hk.1.2⟩))) (fun _ h_ => h_))); (case aB => exact bel); (case aF => exact (fun k_ hk => Kd.freshB (g := gb291) (o := .cells #[.bool ((rd_T61 l1 (rd l0 x11_1)).f0), .bool ((rd_T61 l1 (rd l0 x11_1)).f1), .slice Ao14 y293.length co14] 61 (0, 0)) (bkq BK291) k_ hk)); (case aO => exact (by exact Kd.S_mono (gS HO_5) (fun k_ hk => ⟨hk.2, fun e_ => hk.1 e_⟩))); (case aS => exact (below_size bel)); (case aL => have := LMc10.out; omega); intro v297 w18 ho hb hg hat; rw [← Ny296.out] at ho; have HO298 := A_ ho; replace BK291 := A_ (blk_grown (g := gb291) (o := .cells #[.bool ((rd_T61 l1 (rd l0 x11_1)).f0), .bool ((rd_T61 l1 (rd l0 x11_1)).f1), .slice Ao14 y293.length co14] 61 (0, 0)) (bkq BK291) hg (Kd.S_away HO_5.out (fun _ hk => hk.2))); replace HB := A_ (hb); clear HO_5 HO295; clear ho hb hg hat))
           go_roundg k1
           case measure => have := HK1.out; omega
           case rel => exact ⟨(y296), (wrap64 (x11_1 + 1)), eqs, H', ⟨by have := HK1.out; omega⟩, ⟨Kd.S_mono (gS HO298) (fun _ hk => trivial)⟩, ⟨bel⟩⟩
          ·rw [if_neg c10] at H
           exact absurd H (by simp)
         ·rw [if_neg c9] at H
          exact absurd H (by simp)
        ·rw [if_neg c8] at H
         exact absurd H (by simp)
       ·rw [if_neg c7] at H
        have c7b0 := decide_eq_false c7; clear c7; by_cases c19 : x5_1.length < 4398046511104
        ·rw [if_pos c19] at H
         have LMc19 := A_ c19; clear c19; obtain ⟨y299, hy299⟩ : ∃ y_ : List (S61), y_ = (x5_1 ++ [(⟨false, false, ([] : List Int)⟩ : S61)]) := ⟨_, rfl⟩; (first | rw [← hy299] at H | (have H2_ := (Option.bind_some _ _).symm.trans H; clear H; have H := H2_; clear H2_; (try rw [← hy299] at H))); have Ny299 := A_ hy299; clear hy299; have H' := A_ H; clear H; have p290 : 0 ≤ (x11_1 : Int) := odt; have q290 : x11_1 < (l0.length : Int) := odt; obtain ⟨ad290, e290, hx290_0⟩ := Kd.at_int HR0.out x11_1 p290 q290; cases e290; replace hx290_0 := hbc HB hx290_0; replace p290 := eq_true p290; replace q290 := eq_true q290; go_wp2_with (first | ((with_reducible refine gate_dst (N := 8) rfl ?_); (try (refine gate_guard (by rfl) ?_; dsimp only)); refine bx 8 (cs := #[.bool false, .bool false, .slice none 0 0]) (t := 61) (h := ?_); intro gb291 hg w20 hbox hb; have BK291 := A_ hbox; have GW291 : Aside0 (w.heap.size ≤ gb291) := bge hg; replace HO_5 := A_ (Kd.S_below (Kd.S_elderB (kS HO_5) gb291 (Nat.le_of_eq hg.symm)) hb); replace HB := bst hb; clear hb hbox hg; have hcz21 := bc3 BK291) | ((with_reducible refine gate_builtin (b := .append) (xs := #[.tmp 31, .tmp 33]) rfl ?_); (try (refine gate_guard (by rfl) ?_; dsimp only)); at_builtin; refine Kd.S_append k61 (w0 := w) w.heap.size rfl (.tmp 31) (.tmp 33) 58 61 (.agg #[(.bool false), (.bool false), (.slice none 0 0)]) 32 rfl Try.underlying58 info61 rfl (by decide) (by omega) u5 x5_1 (⟨false, false, ([] : List Int)⟩ : S61) [.bool false, .bool false, .slice none 0 0] (fun k_ => k_ ≠ gb291) (fun _ => False) rfl rfl ?aP (fun k_ hk_ => hk_.elim) ?aF ?aO ?aB ?aS ?aL ?_; (case aP => exact k61_mkM _ _ _ (⟨false, false, ([] : List Int)⟩ : S61) (Kd.R_nil _ _ _ _ _)); (case aB => exact bel); (case aF => exact (fun k_ hk => Kd.freshB (bkq BK291) k_ hk)); (case aO => exact (by exact Kd.S_mono (gS HO_5) (fun k_ hk => ⟨hk.2, fun e_ => e_⟩))); (case aS => exact (below_size bel)); (case aL => have := LMc19.out; omega); intro v300 w22 ho hb hg hat; rw [← Ny299.out] at ho; have HO301 := A_ ho; replace BK291 := A_ (blk_grown (bkq BK291) hg (Kd.S_away HO_5.out (fun _ hk => hk.2))); replace HB := A_ (hb); clear HO_5; clear ho hb hg hat)); go_roundg k1
         case measure => have := HK1.out; omega
         case rel => exact ⟨(y299), (wrap64 (x11_1 + 1)), eqs, H', ⟨by have := HK1.out; omega⟩, ⟨Kd.S_mono (gS HO301) (fun _ hk => trivial)⟩, ⟨bel⟩⟩
        ·rw [if_neg c19] at H
         exact absurd H (by simp)
      ·rw [if_neg c6] at H
       have c6b0 : decide (0 ≤ (rd l0 x11_1)) = false := decide_eq_false c6; clear c6; by_cases c23 : x5_1.length < 4398046511104
       ·rw [if_pos c23] at H
        have LMc23 := A_ c23; clear c23; obtain ⟨y302, hy302⟩ : ∃ y_ : List (S61), y_ = (x5_1 ++ [(⟨false, false, ([] : List Int)⟩ : S61)]) := ⟨_, rfl⟩; (first | rw [← hy302] at H | (have H2_ := (Option.bind_some _ _).symm.trans H; clear H; have H := H2_; clear H2_; (try rw [← hy302] at H))); have Ny302 := A_ hy302; clear hy302; have H' := A_ H; clear H; have p290 : 0 ≤ (x11_1 : Int) := odt; have q290 : x11_1 < (l0.length : Int) := odt; obtain ⟨ad290, e290, hx290_0⟩ := Kd.at_int HR0.out x11_1 p290 q290; cases e290; replace hx290_0 := hbc HB hx290_0; replace p290 := eq_true p290; replace q290 := eq_true q290; go_wp2_with (first | ((with_reducible refine gate_dst (N := 8) rfl ?_); (try (refine gate_guard (by rfl) ?_; dsimp only)); refine bx 8 (cs := #[.bool false, .bool false, .slice none 0 0]) (t := 61) (h := ?_); intro gb291 hg w24 hbox hb; have BK291 := A_ hbox; have GW291 : Aside0 (w.heap.size ≤ gb291) := bge hg; replace HO_5 := A_ (Kd.S_below (Kd.S_elderB (kS HO_5) gb291 (Nat.le_of_eq hg.symm)) hb); replace HB := bst hb; clear hb hbox hg; have hcz25 := bc3 BK291) | ((with_reducible refine gate_builtin (b := .append) (xs := #[.tmp 31, .tmp 33]) rfl ?_); (try (refine gate_guard (by rfl) ?_; dsimp only)); at_builtin; refine Kd.S_append k61 (w0 := w) w.heap.size rfl (.tmp 31) (.tmp 33) 58 61 (.agg #[(.bool false), (.bool false), (.slice none 0 0)]) 32 rfl Try.underlying58 info61 rfl (by decide) (by omega) u5 x5_1 (⟨false, false, ([] : List Int)⟩ : S61) [.bool false, .bool false, .slice none 0 0] (fun k_ => k_ ≠ gb291) (fun _ => False) rfl rfl ?aP (fun k_ hk_ => hk_.elim) ?aF ?aO ?aB ?aS ?aL ?_; (case aP => exact k61_mkM _ _ _ (⟨false, false, ([] : List Int)⟩ : S61) (Kd.R_nil _ _ _ _ _)); (case aB => exact bel); (case aF => exact (fun k_ hk => Kd.freshB (bkq BK291) k_ hk)); (case aO => exact (by exact Kd.S_mono (gS HO_5) (fun k_ hk => ⟨hk.2, fun e_ => e_⟩))); (case aS => exact (below_size bel)); (case aL => have := LMc23.out; omega); intro v303 w26 ho hb hg hat; rw [← Ny302.out] at ho; have HO304 := A_ ho; replace BK291 := A_ (blk_grown (bkq BK291) hg (Kd.S_away HO_5.out (fun _ hk => hk.2))); replace HB := A_ (hb); clear HO_5; clear ho hb hg hat)); go_roundg k1
        case measure => have := HK1.out; omega
        case rel => exact ⟨(y302), (wrap64 (x11_1 + 1)), eqs, H', ⟨by have := HK1.out; omega⟩, ⟨Kd.S_mono (gS HO304) (fun _ hk => trivial)⟩, ⟨bel⟩⟩
       ·rw [if_neg c23] at H
        exact absurd H (by simp)
     ·rw [if_neg c5] at H
      exact absurd H (by simp)
    ·rw [if_neg c4] at H
     exact absurd H (by simp)
   ·rw [if_neg c3] at H
    have c3b0 := decide_eq_false c3; clear c3; obtain rfl := Option.some.inj H; go_wp2; go_ret; exact ⟨_, eqd, by (with_reducible repeat (first | apply Kd.S_alloc | apply Kd.S_drewN | apply Kd.S_drew)); exact HO_5.out, bel⟩
end Go.Proofs.Ytcagkdgpoijkoaa.PLm
