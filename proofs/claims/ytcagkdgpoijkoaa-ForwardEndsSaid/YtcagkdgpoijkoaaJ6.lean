/- Texts of this work, joined: PLmx2, PLmx3, PLmx4, PLmx5, PLmx6, PLmx7. -/
import Derived.Test.YtcagkdgpoijkoaaJ0
import Derived.Test.YtcagkdgpoijkoaaJ5
section
namespace Go.Proofs.Ytcagkdgpoijkoaa.PLm
open Go.RowKit Go.Proofs.Ytcagkdgpoijkoaa.Short Go.Proofs.YtcagkdgpoijkoaaW.PrintWords Go.Proofs.YtcagkdgpoijkoaaW.PrintLast Go.Proofs.YtcagkdgpoijkoaaW.PrintMore
attribute [local go_sem] max2_int min2_int max_two min_two max_three min_three max_four min_four
set_option linter.unusedVariables false
set_option linter.unusedSimpArgs false
def maquettelaw05_Make.l0 : Nat → Int → Int → Int → Option (Int × Int)
 | 0, _, _, _ => none
 | k + 1, x5, x107000, x107001 => if x5 < 32 then (if 0 ≤ (wrap64 (31 - x5)) then (maquettelaw05_Make.l0 k (wrap64 (x5 + 1)) (Go.bits .andNot .u32 x107000 (shl .u32 1 (wrap64 (31 - x5)))) x107001) else (none)) else (some (x107000, x107001))
def maquettelaw05_Make.f (k : Nat) (a0 : Int) : Option (Int × Int) := (some (([0, 8, 16, 24, 32, 9, 17, 30] : List Int) : List Int)).bind fun y102 => (if 0 ≤ (Int.tmod a0 8) then (if (Int.tmod a0 8) < (y102.length : Int) then (maquettelaw05_Make.l0 k (rd y102 (Int.tmod a0 8)) (((167772160 + (((Int.tdiv a0 64) % 256) * 65536)) + ((((Int.tdiv a0 16) % 256) % 4) * 256)) + (((Int.tdiv a0 8) % 256) % 2)) (rd y102 (Int.tmod a0 8))) else (none)) else (none))
theorem maquettelaw05_Make.mono_l : ∀ k, (∀ y0 y1 y2, LeO (maquettelaw05_Make.l0 k y0 y1 y2) (maquettelaw05_Make.l0 (k + 1) y0 y1 y2))
 | 0 => fun _ _ _ r h => by simp [maquettelaw05_Make.l0] at h
 | k + 1 => by
  have ih0 := maquettelaw05_Make.mono_l k
  ·intro y0 y1 y2
   unfold maquettelaw05_Make.l0; repeat' first
   | (with_reducible exact ih0 _ _ _)
   | (with_reducible exact LeO.refl _)
   | (with_reducible exact LeO.none _)
   | (with_reducible refine LeO.ite ?_ ?_)
   | (with_reducible refine LeO.bind ?_ (fun _ => ?_))
   | exact ih0 _ _ _
   | exact LeO.none _
   | refine LeO.ite ?_ ?_
   | refine LeO.bind ?_ (fun _ => ?_)
theorem maquettelaw05_Make.mono : ∀ a0 k, LeO (maquettelaw05_Make.f k a0) (maquettelaw05_Make.f (k + 1) a0) := by
 intro a0 k; have ih0 := maquettelaw05_Make.mono_l k; unfold maquettelaw05_Make.f
 repeat' first
   | (with_reducible exact ih0 _ _ _)
   | (with_reducible exact LeO.refl _)
   | (with_reducible exact LeO.none _)
   | (with_reducible refine LeO.ite ?_ ?_)
   | (with_reducible refine LeO.bind ?_ (fun _ => ?_))
   | exact ih0 _ _ _
   | exact LeO.none _
   | refine LeO.ite ?_ ?_
   | refine LeO.bind ?_ (fun _ => ?_)
def maquettelaw05_Make.T6 : Bool × List (List Nat × List Nat) := (true, [([], []), ([0], [0]), ([], []), ([2], [2]), ([3], [3]), ([1, 4], [1, 4]), ([0, 1, 2, 3, 4, 5], []), ([6, 5, 0, 1, 2, 3, 4, 5], [5, 6])])
def maquettelaw05_Make.B6 : List Nat := [0, 1, 0, 4, 12, 31, 63, 127]
theorem maquettelaw05_Make.tab6 : rtab .any (opsOf Try.f34 6) = maquettelaw05_Make.T6 := by kernel_rfl
theorem maquettelaw05_Make.bits6 : waitsOk maquettelaw05_Make.T6.2 maquettelaw05_Make.B6 = true := by kernel_rfl
set_option maxHeartbeats 8000000 in
set_option maxRecDepth 100000 in
theorem maquettelaw05_Make.calls (k : Nat) (a0 : Int) (r1 : Int) (r2 : Int) (w : World) (h : maquettelaw05_Make.f k a0 = some (r1, r2)) :
  Calls Try.prog 34 #[.int .u8 a0] w fun e w' => e = .returned (.agg #[.int .u32 r1, .int .i64 r2]) ∧ Below w.heap.size w w' := by
 have hu35 := Try.underlying35; have HB := A_ (Below.refl w.heap.size w); unfold maquettelaw05_Make.f at h; have H := h; clear h; obtain ⟨y102, hy102⟩ : ∃ y_ : List Int, y_ = (([0, 8, 16, 24, 32, 9, 17, 30] : List Int)) := ⟨_, rfl⟩; (first | rw [← hy102] at H | (have H2_ := (Option.bind_some _ _).symm.trans H; clear H; have H := H2_; clear H2_; (try rw [← hy102] at H))); have Ny102 := A_ hy102; clear hy102; obtain ⟨ji2, hji2⟩ : ∃ j_ : Int, (Int.tmod a0 8) = j_ := ⟨_, rfl⟩; (replace H : (if 0 ≤ (ji2) then (if (ji2) < (y102.length : Int) then (maquettelaw05_Make.l0 k (rd y102 (ji2)) (((167772160 + (((Int.tdiv a0 64) % 256) * 65536)) + ((((Int.tdiv a0 16) % 256) % 4) * 256)) + (((Int.tdiv a0 8) % 256) % 2)) (rd y102 (ji2))) else (none)) else (none)) = some (r1, r2) := by first | (rw [hji2] at H; exact H) | (simp only [hji2] at H ⊢; exact H)); by_cases c3 : 0 ≤ (ji2)
 ·rw [if_pos c3] at H
  have c3b0 := decide_eq_true c3; clear c3; by_cases c4 : (ji2) < (y102.length : Int)
  ·rw [if_pos c4] at H
   have c4b0 := decide_eq_true c4; clear c4; have H' := A_ H; clear H; go_enter Try.func34, Try.ntmps34; go_wp2_with (first | ((with_reducible refine gate_dst (N := 2) rfl ?_); refine bx 2 (cs := #[.int .u32 0, .int .i64 0]) (t := 35) (h := ?_); intro gb101 hg w5 hbox hb; have BK101 := A_ hbox; have GW101 : Aside0 (w.heap.size ≤ gb101) := bge hg; replace HB := bst hb; clear hb hbox hg) | ((with_reducible refine gate_dst (N := 6) rfl ?_); refine Kd.R_lit (Kd.int .i64) _ 3 ?hg (N := 6) ?hd (xs := ([0, 8, 16, 24, 32, 9, 17, 30] : List Int)) (inner := [.int .i64 0, .int .i64 8, .int .i64 16, .int .i64 24, .int .i64 32, .int .i64 9, .int .i64 17, .int .i64 30]) (ok := fun _ => True) (okp := fun _ => True) ?hr ?hp (fun _ hk => hk) trivial (Below.refl _ _) (Nat.le_refl _) (by simp) ?_; (case hd => rfl); (case hg => rfl); (case hr => first | (go_simp; done) | (go_simp; rfl)); (case hp => exact (Reps.one (show Kd.M (Kd.int .i64) _ _ _ 0 [.int .i64 0] from rfl) (Reps.one (show Kd.M (Kd.int .i64) _ _ _ 8 [.int .i64 8] from rfl) (Reps.one (show Kd.M (Kd.int .i64) _ _ _ 16 [.int .i64 16] from rfl) (Reps.one (show Kd.M (Kd.int .i64) _ _ _ 24 [.int .i64 24] from rfl) (Reps.one (show Kd.M (Kd.int .i64) _ _ _ 32 [.int .i64 32] from rfl) (Reps.one (show Kd.M (Kd.int .i64) _ _ _ 9 [.int .i64 9] from rfl) (Reps.one (show Kd.M (Kd.int .i64) _ _ _ 17 [.int .i64 17] from rfl) (Reps.one (show Kd.M (Kd.int .i64) _ _ _ 30 [.int .i64 30] from rfl) (Reps.none _ _)))))))))); intro v103 w6 ho7 hb hg_ hnew_; clear hg_ hnew_; (first | rw [← Ny102.out] at ho7 | (simp only [Int.reduceToNat] at ho7; rw [← Ny102.out] at ho7)); have HO104 := A_ (Kd.R_lower ho7 (below_size bel)); replace BK101 := bkb BK101 hb; replace HB := bst hb; clear hb ho7; obtain ⟨Ao8, co8, eo8⟩ := Kd.R_slice HO104.out; subst eo8; have p105 : 0 ≤ ((ji2) : Int) := odt; have q105 : (ji2) < (y102.length : Int) := odt; obtain ⟨ad105, e105, hx105_0⟩ := Kd.at_int (Kd.R_reads' HO104.out).2.2 (ji2) p105 q105; cases e105; replace p105 := eq_true p105; replace q105 := eq_true q105) | ((with_reducible refine gate_dst (N := 4) rfl ?_); refine bx 4 (cs := #[.int .u32 0, .int .i64 0]) (t := 35) (h := ?_); intro gb106 hg w9 hbox hb; have BK106 := A_ hbox; have GW106 : Aside0 (w.heap.size ≤ gb106) := bge hg; have NB101_106 := bne BK101 hg; have NB106_101 := bnf BK101 hg; replace HO104 := A_ (Kd.R_below (kR HO104) hb); replace BK101 := bkb BK101 hb; replace HB := bst hb; clear hb hbox hg; have hnb10 := NB106_101.out; have hnc10 := NB101_106.out; have hcz11 := bc2 BK106)); go_loopg [5] k (fun kq v5 w' => ∃ (x5_1 : Int) (x107000_1 : Int), v5 = .int .i64 x5_1 ∧ Aside0 (maquettelaw05_Make.l0 kq x5_1 x107000_1 (rd y102 (ji2)) = some (r1, r2)) ∧ Aside0 (kq ≤ k) ∧ Aside0 (w'.heap[gb101]? = some (.cells #[.int .u32 0, .int .i64 0] 35 (0, 0))) ∧ Aside0 (w'.heap[gb106]? = some (.cells #[.int .u32 x107000_1, .int .i64 (rd y102 (ji2))] 35 (0, 0))) ∧ Aside0 (Below w.heap.size w w'))
   case atStart => exact ⟨(rd y102 (ji2)), (((167772160 + (((Int.tdiv a0 64) % 256) * 65536)) + ((((Int.tdiv a0 16) % 256) % 4) * 256)) + (((Int.tdiv a0 8) % 256) % 2)), (by first | rfl | (simp; done) | (simp only [← hji2] <;> (first | rfl | simp)) | (simp [*]; done)), H', ⟨Nat.le_refl _⟩, ⟨bkq BK101⟩, ⟨bkp BK106⟩, ⟨bel⟩⟩
   case round =>
    clear H'; (try clear c1); (try clear p1); (try clear q1); (try clear hx1); (try clear p2); (try clear c3); (try clear c3b0); (try clear c4); (try clear c4b0); (try clear c10); (try clear p10); (try clear q10); (try clear hx10); (try clear hcz11); (try clear hx105_0); (try clear p105); (try clear q105); obtain ⟨x5_1, x107000_1, rfl, HA, HK1, BK101, BK106, HB⟩ := hrel
    cases gk with
    | zero => exact absurd HA.out (by simp [maquettelaw05_Make.l0])
    | succ k1 =>
     have H := HA.out; clear HA; simp only [maquettelaw05_Make.l0] at H; by_cases c12 : x5_1 < 32
     ·rw [if_pos c12] at H
      have c12b0 := decide_eq_true c12; clear c12; obtain ⟨ji13, hji13⟩ : ∃ j_ : Int, (wrap64 (31 - x5_1)) = j_ := ⟨_, rfl⟩; (replace H : (if 0 ≤ (ji13) then (maquettelaw05_Make.l0 k1 (wrap64 (x5_1 + 1)) (Go.bits .andNot .u32 x107000_1 (shl .u32 1 (ji13))) (rd y102 (ji2))) else (none)) = some (r1, r2) := by first | (rw [hji13] at H; exact H) | (simp only [hji13] at H ⊢; exact H)); have hji13w : (IntKind.i64.wrap (31 - x5_1)) = ji13 := (i64_w _).trans hji13; by_cases c14 : 0 ≤ (ji13)
      ·rw [if_pos c14] at H
       have c14b0 := eq_true c14; have c14b1 := decide_eq_true c14; clear c14; obtain ⟨ji15, hji15⟩ : ∃ j_ : Int, (shl .u32 1 (ji13)) = j_ := ⟨_, rfl⟩; (replace H : (maquettelaw05_Make.l0 k1 (wrap64 (x5_1 + 1)) (Go.bits .andNot .u32 x107000_1 (ji15)) (rd y102 (ji2))) = some (r1, r2) := by first | (rw [hji15] at H; exact H) | (simp only [hji15] at H ⊢; exact H)); have hji15_ : (IntKind.u32.wrap (1 * 2 ^ min (ji13).toNat 32)) = ji15 := hji15; have hji15z : (ji13) ≤ 32 → (IntKind.u32.wrap (1 * 2 ^ (ji13).toNat)) = ji15 := shl_small hji15; (have hji15u : (IntKind.u32.wrap (2 ^ min (ji13).toNat 32)) = ji15 := by have h_ := hji15_; rw [Int.one_mul] at h_; exact h_); (have hji15v : (ji13) ≤ 32 → (IntKind.u32.wrap (2 ^ (ji13).toNat)) = ji15 := fun hle_ => by have h_ := hji15z hle_; rw [Int.one_mul] at h_; exact h_); have H' := A_ H; clear H; (try go_wp2); replace BK101 := A_ (blk_drew BK101.out); replace BK106 := A_ (blk_drew BK106.out); replace HB := A_ (below_drew1 HB.out); refine start_ (n := 8) (S := fun w' => CE2 w' gb106 (.int .u32 x107000_1) (.int .i64 (rd y102 (ji2)))) (ds := [7]) #[false, false, false, false, false, false, false, false] (by kernel_rfl) rfl rfl (he2 BK106) (fun hHeld => ?_); refine with_tabW maquettelaw05_Make.tab6 maquettelaw05_Make.bits6 (fun HT_ HW_ => ?_); generalize wr.drew = w16 at BK101 BK106 HB hHeld ⊢; refine pu HT_ 0 (some 34) (mk 8 1) ?_; refine pu HT_ 2 (some 36) (mk 8 5) ?_; refine pu HT_ 3 (some 37) (mk 8 13) ?_; refine pu HT_ 4 (some 38) (mk 8 29) ?_; refine tk HT_ HW_ 1 (some 35) (mk 8 31) hHeld ?_; refine pu HT_ 5 (some 39) (mk 8 63) ?_; refine pu HT_ 6 (some 40) (mk 8 127) ?_; (refine la HT_ 7 (none) (mk 8 255) fun K hK => ?_); have hs17 : w16.cell? ⟨gb106, 0, none⟩ = some (.int .u32 x107000_1) := (blk_cell BK106.out 0).trans rfl; have hfs17 := blk_frozen BK106.out 0; have hns17_0 := NB101_106.out; have hms17_0 := NB106_101.out; refine skip_ (w1 := ?_) (by rfl) rfl ?_ ?_; rotate_left
       ·go_simp
        rfl
       refine hK.out _ _ ?_; clear hK K; refine done_ (done_of HT_.out (by kernel_rfl)) ?_; (try go_wp2); go_roundg k1
       case measure => have := HK1.out; omega
       case rel => exact ⟨(wrap64 (x5_1 + 1)), (Go.bits .andNot .u32 x107000_1 (ji15)), eqs, H', ⟨by have := HK1.out; omega⟩, ⟨bkq BK101⟩, ⟨bkp BK106⟩, ⟨bel⟩⟩
      ·rw [if_neg c14] at H
       exact absurd H (by simp)
     ·rw [if_neg c12] at H
      have c12b0 := decide_eq_false c12; clear c12; simp only [Option.some.injEq, Prod.mk.injEq] at H; obtain ⟨rfl, rfl⟩ := H; have hnb18 := NB106_101.out; have hnc18 := NB101_106.out; have hcz19 := bc2 BK106; have hcz20 := bc2 BK101; go_wp2; refine bodyPost_ret (results_cell_row rfl _ _ gb101 35 #[.int .u32 x107000_1, .int .i64 (rd y102 (ji2))] (0, 0) _ rfl (bkp BK101) Try.underlying35 rfl (by kernel_rfl)) rfl ?_; exact ⟨by first | rfl | (simp [errW_none, errW_some] <;> rfl) | (simp only [← hji2]; first | rfl | (simp [errW_none, errW_some] <;> rfl)) | (simp [*, errW_none, errW_some] <;> rfl), bel⟩
  ·rw [if_neg c4] at H
   exact absurd H (by simp)
 ·rw [if_neg c3] at H
  exact absurd H (by simp)
mutual
def maquettelaw07_Rule_Clause.j0 : Nat → Int → Int → Int → Int → Int → Int → Bool → Int → Int → Int → Int → Bool → Int → Int → Int → Int → Option (Bool × Int × Int × Int × Int × Bool × Int × Int × Int × Int)
 | 0, _, _, _, _, _, _, _, _, _, _, _, _, _, _, _, _ => none
 | k + 1, x108000, x108001, x108002, x108003, x108004, x108005, x110000, x110001, x110002, x110003, x110004, x110005, x110006, x110007, x110008, x110009 => if x108002 > 60 then (maquettelaw07_Rule_Clause.j1 k x108000 x108001 x108002 x108003 x108004 x108005 x110000 x110001 x110002 x110003 0 x110005 x110006 x110007 x110008 x110009) else (maquettelaw07_Rule_Clause.j1 k x108000 x108001 x108002 x108003 x108004 x108005 x110000 x110001 x110002 x110003 x110004 x110005 x110006 x110007 x110008 x110009)
def maquettelaw07_Rule_Clause.j1 : Nat → Int → Int → Int → Int → Int → Int → Bool → Int → Int → Int → Int → Bool → Int → Int → Int → Int → Option (Bool × Int × Int × Int × Int × Bool × Int × Int × Int × Int)
 | 0, _, _, _, _, _, _, _, _, _, _, _, _, _, _, _, _ => none
 | k + 1, x108000, x108001, x108002, x108003, x108004, x108005, x110000, x110001, x110002, x110003, x110004, x110005, x110006, x110007, x110008, x110009 => if x108005 < 200 then (if x110000 = true then (some (x110000, x110001, x110002, x110003, x110004, x110005, x110006, x110007, x110008, 0)) else ((maquettelaw05_Make.f k x108000).bind fun bt110 => (some (x110000, bt110.1, bt110.2, x110003, x110004, x110005, x110006, x110007, x110008, 0)))) else (if x110000 = true then (some (x110000, x110001, x110002, x110003, x110004, x110005, x110006, x110007, x110008, x110009)) else ((maquettelaw05_Make.f k x108000).bind fun bt112 => (some (x110000, bt112.1, bt112.2, x110003, x110004, x110005, x110006, x110007, x110008, x110009))))
end
def maquettelaw07_Rule_Clause.f (k : Nat) (a0_0 : Int) (a0_1 : Int) (a0_2 : Int) (a0_3 : Int) (a0_4 : Int) (a0_5 : Int) : Option (Bool × Int × Int × Int × Int × Bool × Int × Int × Int × Int) := if a0_1 > 100 then (maquettelaw07_Rule_Clause.j0 k a0_0 a0_1 a0_2 a0_3 a0_4 a0_5 ((Int.tmod a0_0 3) == 0) 0 0 0 (Int.tmod a0_2 16) ((Int.tmod a0_3 4) == 3) ((Int.tdiv a0_3 16) % 256) ((Int.tdiv a0_4 16) % 256) (wrap64 (Int.tmod a0_4 4)) (wrap64 (a0_5))) else (maquettelaw07_Rule_Clause.j0 k a0_0 a0_1 a0_2 a0_3 a0_4 a0_5 ((Int.tmod a0_0 3) == 0) 0 0 (Int.tmod a0_1 16) (Int.tmod a0_2 16) ((Int.tmod a0_3 4) == 3) ((Int.tdiv a0_3 16) % 256) ((Int.tdiv a0_4 16) % 256) (wrap64 (Int.tmod a0_4 4)) (wrap64 (a0_5)))
theorem maquettelaw07_Rule_Clause.mono_l : ∀ k, (∀ y0 y1 y2 y3 y4 y5 y6 y7 y8 y9 y10 y11 y12 y13 y14 y15, LeO (maquettelaw07_Rule_Clause.j0 k y0 y1 y2 y3 y4 y5 y6 y7 y8 y9 y10 y11 y12 y13 y14 y15) (maquettelaw07_Rule_Clause.j0 (k + 1) y0 y1 y2 y3 y4 y5 y6 y7 y8 y9 y10 y11 y12 y13 y14 y15)) ∧ (∀ y0 y1 y2 y3 y4 y5 y6 y7 y8 y9 y10 y11 y12 y13 y14 y15, LeO (maquettelaw07_Rule_Clause.j1 k y0 y1 y2 y3 y4 y5 y6 y7 y8 y9 y10 y11 y12 y13 y14 y15) (maquettelaw07_Rule_Clause.j1 (k + 1) y0 y1 y2 y3 y4 y5 y6 y7 y8 y9 y10 y11 y12 y13 y14 y15))
 | 0 => ⟨fun _ _ _ _ _ _ _ _ _ _ _ _ _ _ _ _ r h => by simp [maquettelaw07_Rule_Clause.j0] at h, fun _ _ _ _ _ _ _ _ _ _ _ _ _ _ _ _ r h => by simp [maquettelaw07_Rule_Clause.j1] at h⟩
 | k + 1 => by
  obtain ⟨ih0, ih1⟩ := maquettelaw07_Rule_Clause.mono_l k
  refine ⟨?_, ?_⟩<;> intros <;> (first | unfold maquettelaw07_Rule_Clause.j0 | unfold maquettelaw07_Rule_Clause.j1) <;> repeat' first
   | (with_reducible exact ih0 _ _ _ _ _ _ _ _ _ _ _ _ _ _ _ _)
   | (with_reducible exact ih1 _ _ _ _ _ _ _ _ _ _ _ _ _ _ _ _)
   | (with_reducible exact maquettelaw05_Make.mono _ _)
   | (with_reducible exact LeO.refl _)
   | (with_reducible exact LeO.none _)
   | (with_reducible refine LeO.ite ?_ ?_)
   | (with_reducible refine LeO.bind ?_ (fun _ => ?_))
   | exact ih0 _ _ _ _ _ _ _ _ _ _ _ _ _ _ _ _
   | exact ih1 _ _ _ _ _ _ _ _ _ _ _ _ _ _ _ _
   | exact maquettelaw05_Make.mono _ _
   | exact LeO.none _
   | refine LeO.ite ?_ ?_
   | refine LeO.bind ?_ (fun _ => ?_)
theorem maquettelaw07_Rule_Clause.mono : ∀ a0 a1 a2 a3 a4 a5 k, LeO (maquettelaw07_Rule_Clause.f k a0 a1 a2 a3 a4 a5) (maquettelaw07_Rule_Clause.f (k + 1) a0 a1 a2 a3 a4 a5) := by
 intro a0 a1 a2 a3 a4 a5 k; obtain ⟨ih0, ih1⟩ := maquettelaw07_Rule_Clause.mono_l k; unfold maquettelaw07_Rule_Clause.f
 repeat' first
   | (with_reducible exact ih0 _ _ _ _ _ _ _ _ _ _ _ _ _ _ _ _)
   | (with_reducible exact ih1 _ _ _ _ _ _ _ _ _ _ _ _ _ _ _ _)
   | (with_reducible exact maquettelaw05_Make.mono _ _)
   | (with_reducible exact LeO.refl _)
   | (with_reducible exact LeO.none _)
   | (with_reducible refine LeO.ite ?_ ?_)
   | (with_reducible refine LeO.bind ?_ (fun _ => ?_))
   | exact ih0 _ _ _ _ _ _ _ _ _ _ _ _ _ _ _ _
   | exact ih1 _ _ _ _ _ _ _ _ _ _ _ _ _ _ _ _
   | exact maquettelaw05_Make.mono _ _
   | exact LeO.none _
   | refine LeO.ite ?_ ?_
   | refine LeO.bind ?_ (fun _ => ?_)
set_option maxHeartbeats 8000000 in
set_option maxRecDepth 100000 in
theorem maquettelaw07_Rule_Clause.calls (k : Nat) (a0_0 : Int) (a0_1 : Int) (a0_2 : Int) (a0_3 : Int) (a0_4 : Int) (a0_5 : Int) (r1 : Bool) (r2 : Int) (r3 : Int) (r4 : Int) (r5 : Int) (r6 : Bool) (r7 : Int) (r8 : Int) (r9 : Int) (r10 : Int) (w : World) (h : maquettelaw07_Rule_Clause.f k a0_0 a0_1 a0_2 a0_3 a0_4 a0_5 = some (r1, r2, r3, r4, r5, r6, r7, r8, r9, r10)) :
  Calls Try.prog 47 #[.agg #[.int .u8 a0_0, .int .u8 a0_1, .int .u8 a0_2, .int .u8 a0_3, .int .u8 a0_4, .int .u8 a0_5]] w fun e w' => e = .returned (.agg #[.bool r1, .int .u32 r2, .int .i64 r3, .int .u8 r4, .int .u8 r5, .bool r6, .int .u8 r7, .int .u8 r8, .int .i64 r9, .int .i64 r10]) ∧ Below w.heap.size w w' := by
 have hu114 := Try.underlying114; have hu116 := Try.underlying116; have hu35 := Try.underlying35; have HB := A_ (Below.refl w.heap.size w); unfold maquettelaw07_Rule_Clause.f at h; have H := h; clear h; have HC2 := A_ H; clear H; go_enter Try.func47, Try.ntmps47; go_upto_if 34 with (first | ((with_reducible refine gate_dst (N := 1) rfl ?_); refine bx 1 (cs := #[.int .u8 a0_0, .int .u8 a0_1, .int .u8 a0_2, .int .u8 a0_3, .int .u8 a0_4, .int .u8 a0_5]) (t := 114) (h := ?_); intro gb107 hg w3 hbox hb; have BK107 := A_ hbox; have GW107 : Aside0 (w.heap.size ≤ gb107) := bge hg; replace HB := bst hb; clear hb hbox hg) | ((with_reducible refine gate_dst (N := 2) rfl ?_); refine bx 2 (cs := #[.bool false, .int .u32 0, .int .i64 0, .int .u8 0, .int .u8 0, .bool false, .int .u8 0, .int .u8 0, .int .i64 0, .int .i64 0]) (t := 116) (h := ?_); intro gb108 hg w4 hbox hb; have BK108 := A_ hbox; have GW108 : Aside0 (w.heap.size ≤ gb108) := bge hg; have NB107_108 := bne BK107 hg; have NB108_107 := bnf BK107 hg; replace BK107 := bkb BK107 hb; replace HB := bst hb; clear hb hbox hg; have hnb5 := NB107_108.out; have hnc5 := NB108_107.out; have hcz6 := bc6 BK107) | ((with_reducible refine gate_dst (N := 3) rfl ?_); refine bx 3 (cs := #[.bool false, .int .u32 0, .int .i64 0, .int .u8 0, .int .u8 0, .bool false, .int .u8 0, .int .u8 0, .int .i64 0, .int .i64 0]) (t := 116) (h := ?_); intro gb109 hg w7 hbox hb; have BK109 := A_ hbox; have GW109 : Aside0 (w.heap.size ≤ gb109) := bge hg; have NB107_109 := bne BK107 hg; have NB109_107 := bnf BK107 hg; have NB108_109 := bne BK108 hg; have NB109_108 := bnf BK108 hg; replace BK107 := bkb BK107 hb; replace BK108 := bkb BK108 hb; replace HB := bst hb; clear hb hbox hg; have hnb8 := NB109_107.out; have hnc8 := NB107_109.out; have hnb9 := NB109_108.out; have hnc9 := NB108_109.out; have hcz10 := bc10 BK109; have hcz11 := bc6 BK107)); (try simp only [Act.put, List.setIfInBounds_toArray, List.set_cons_zero, List.set_cons_succ])
 go_cut [] (fun wc => ∃ (kq : Nat) (x110003_1 : Int), Aside0 (maquettelaw07_Rule_Clause.j0 kq a0_0 a0_1 a0_2 a0_3 a0_4 a0_5 ((Int.tmod a0_0 3) == 0) 0 0 x110003_1 (Int.tmod a0_2 16) ((Int.tmod a0_3 4) == 3) ((Int.tdiv a0_3 16) % 256) ((Int.tdiv a0_4 16) % 256) (wrap64 (Int.tmod a0_4 4)) (wrap64 (a0_5)) = some (r1, r2, r3, r4, r5, r6, r7, r8, r9, r10)) ∧ Aside0 (kq ≤ k) ∧ Aside0 (wc.heap[gb107]? = some (.cells #[.int .u8 a0_0, .int .u8 a0_1, .int .u8 a0_2, .int .u8 a0_3, .int .u8 a0_4, .int .u8 a0_5] 114 (0, 0))) ∧ Aside0 (wc.heap[gb108]? = some (.cells #[.bool false, .int .u32 0, .int .i64 0, .int .u8 0, .int .u8 0, .bool false, .int .u8 0, .int .u8 0, .int .i64 0, .int .i64 0] 116 (0, 0))) ∧ Aside0 (wc.heap[gb109]? = some (.cells #[.bool ((Int.tmod a0_0 3) == 0), .int .u32 0, .int .i64 0, .int .u8 x110003_1, .int .u8 (Int.tmod a0_2 16), .bool ((Int.tmod a0_3 4) == 3), .int .u8 ((Int.tdiv a0_3 16) % 256), .int .u8 ((Int.tdiv a0_4 16) % 256), .int .i64 (wrap64 (Int.tmod a0_4 4)), .int .i64 (wrap64 (a0_5))] 116 (0, 0))) ∧ Aside0 (Below w.heap.size w wc))
 case first =>
  have H := HC2.out; clear HC2; by_cases c12 : a0_1 > 100
  ·rw [if_pos c12] at H
   have c12b0 : decide (100 < a0_1) = true := decide_eq_true c12; clear c12; (first | rw [c12b0] | (simp only [i64_w, i32_w]; rw [c12b0]) | skip); have H' := A_ H; clear H; have hnb13 := NB109_107.out; have hnc13 := NB107_109.out; have hnb14 := NB109_108.out; have hnc14 := NB108_109.out; have hcz15 := bc10 BK109; go_wp2; go_meet
   case rel => exact ⟨_, (0), H', ⟨by first | omega | exact Nat.le_refl _⟩, ⟨bkq BK107⟩, ⟨bkq BK108⟩, ⟨bkp BK109⟩, ⟨bel⟩⟩
  ·rw [if_neg c12] at H
   have c12b0 : decide (100 < a0_1) = false := decide_eq_false c12; clear c12; (first | rw [c12b0] | (simp only [i64_w, i32_w]; rw [c12b0]) | skip); have H' := A_ H; clear H; go_wp2; go_meet
   case rel => exact ⟨_, (Int.tmod a0_1 16), H', ⟨by first | omega | exact Nat.le_refl _⟩, ⟨bkq BK107⟩, ⟨bkq BK108⟩, ⟨bkp BK109⟩, ⟨bel⟩⟩
 case rest =>
  clear HC2; (try clear c1); (try clear p2); (try clear c4); (try clear c5); (try clear p6); (try clear c8); (try clear c9); (try clear c12); (try clear c12b0); (try clear c13); (try clear c14); (try clear hcz10); (try clear hcz11); (try clear hcz15); (try clear hcz6); obtain ⟨kq, x110003_1, HA, HJ1, BK107, BK108, BK109, HB⟩ := hcut
  cases kq with
  | zero => exact absurd HA.out (by simp [maquettelaw07_Rule_Clause.j0])
  | succ kj1 =>
   have H := HA.out; clear HA; simp only [maquettelaw07_Rule_Clause.j0] at H; have HC16 := A_ H; clear H; have hnb17 := NB107_108.out; have hnc17 := NB108_107.out; have hnb18 := NB107_109.out; have hnc18 := NB109_107.out; have hcz19 := bc6 BK107; go_upto_if 38 with (fail); go_cut [] (fun wc => ∃ (kq : Nat) (x110004_15 : Int), Aside0 (maquettelaw07_Rule_Clause.j1 kq a0_0 a0_1 a0_2 a0_3 a0_4 a0_5 ((Int.tmod a0_0 3) == 0) 0 0 x110003_1 x110004_15 ((Int.tmod a0_3 4) == 3) ((Int.tdiv a0_3 16) % 256) ((Int.tdiv a0_4 16) % 256) (wrap64 (Int.tmod a0_4 4)) (wrap64 (a0_5)) = some (r1, r2, r3, r4, r5, r6, r7, r8, r9, r10)) ∧ Aside0 (kq ≤ kj1) ∧ Aside0 (wc.heap[gb107]? = some (.cells #[.int .u8 a0_0, .int .u8 a0_1, .int .u8 a0_2, .int .u8 a0_3, .int .u8 a0_4, .int .u8 a0_5] 114 (0, 0))) ∧ Aside0 (wc.heap[gb108]? = some (.cells #[.bool false, .int .u32 0, .int .i64 0, .int .u8 0, .int .u8 0, .bool false, .int .u8 0, .int .u8 0, .int .i64 0, .int .i64 0] 116 (0, 0))) ∧ Aside0 (wc.heap[gb109]? = some (.cells #[.bool ((Int.tmod a0_0 3) == 0), .int .u32 0, .int .i64 0, .int .u8 x110003_1, .int .u8 x110004_15, .bool ((Int.tmod a0_3 4) == 3), .int .u8 ((Int.tdiv a0_3 16) % 256), .int .u8 ((Int.tdiv a0_4 16) % 256), .int .i64 (wrap64 (Int.tmod a0_4 4)), .int .i64 (wrap64 (a0_5))] 116 (0, 0))) ∧ Aside0 (Below w.heap.size w wc))
   case first =>
    have H := HC16.out; clear HC16; by_cases c20 : a0_2 > 60
    ·rw [if_pos c20] at H
     have c20b0 : decide (60 < a0_2) = true := decide_eq_true c20; clear c20; (first | rw [c20b0] | (simp only [i64_w, i32_w]; rw [c20b0]) | skip); have H' := A_ H; clear H; have hnb21 := NB109_107.out; have hnc21 := NB107_109.out; have hnb22 := NB109_108.out; have hnc22 := NB108_109.out; have hcz23 := bc10 BK109; go_wp2; go_meet
     case rel => exact ⟨_, (0), H', ⟨by have := HJ1.out; first | omega | exact Nat.le_refl _⟩, ⟨bkq BK107⟩, ⟨bkq BK108⟩, ⟨bkp BK109⟩, ⟨bel⟩⟩
    ·rw [if_neg c20] at H
     have c20b0 : decide (60 < a0_2) = false := decide_eq_false c20; clear c20; (first | rw [c20b0] | (simp only [i64_w, i32_w]; rw [c20b0]) | skip); have H' := A_ H; clear H; go_wp2; go_meet
     case rel => exact ⟨_, ((Int.tmod a0_2 16)), H', ⟨by have := HJ1.out; first | omega | exact Nat.le_refl _⟩, ⟨bkq BK107⟩, ⟨bkq BK108⟩, ⟨bkq BK109⟩, ⟨bel⟩⟩
   case rest =>
    clear HC16; (try clear c1); (try clear c2); (try clear p2 p2); (try clear c4); (try clear c5); (try clear p6 p6); (try clear c8); (try clear c9); (try clear c12); (try clear c12b0); (try clear c13); (try clear c14); (try clear c17); (try clear c18); (try clear c20); (try clear c20b0); (try clear c21); (try clear c22); (try clear hcz10); (try clear hcz11); (try clear hcz15); (try clear hcz19); (try clear hcz23); (try clear hcz6); obtain ⟨kq, x110004_15, HA, HJ15, BK107, BK108, BK109, HB⟩ := hcut
    cases kq with
    | zero => exact absurd HA.out (by simp [maquettelaw07_Rule_Clause.j1])
    | succ kj15 =>
     have H := HA.out; clear HA; simp only [maquettelaw07_Rule_Clause.j1] at H; by_cases c24 : a0_5 < 200
     ·rw [if_pos c24] at H
      have c24b0 := decide_eq_true c24; clear c24; by_cases c25 : ((Int.tmod a0_0 3) == 0) = true
      ·rw [if_pos c25] at H
       have c25b0 : ((Int.tmod a0_0 3) == 0) = true := c25; (try (have c25b1 : decide ((Int.tmod a0_0 3) = 0) = true := by simpa using c25)); (try (have c25b2 : ((Int.tmod a0_0 3) == 0) = true := by simpa using c25)); clear c25; simp only [Option.some.injEq, Prod.mk.injEq] at H; obtain ⟨rfl, rfl, rfl, rfl, rfl, rfl, rfl, rfl, rfl, rfl⟩ := H; have hnb26 := NB107_108.out; have hnc26 := NB108_107.out; have hnb27 := NB107_109.out; have hnc27 := NB109_107.out; have hcz28 := bc6 BK107; have hnb29 := NB109_108.out; have hnc29 := NB108_109.out; have hcz30 := bc10 BK109; have hcz31 := bc10 BK108; go_wp2; refine bodyPost_ret (results_cell_row rfl _ _ gb108 116 #[.bool ((Int.tmod a0_0 3) == 0), .int .u32 0, .int .i64 0, .int .u8 x110003_1, .int .u8 x110004_15, .bool ((Int.tmod a0_3 4) == 3), .int .u8 ((Int.tdiv a0_3 16) % 256), .int .u8 ((Int.tdiv a0_4 16) % 256), .int .i64 (wrap64 (Int.tmod a0_4 4)), .int .i64 0] (0, 0) _ rfl (bkp BK108) Try.underlying116 rfl (by kernel_rfl)) rfl ?_; exact ⟨eqd, bel⟩
      ·rw [if_neg c25] at H
       (have c25b0 : ((Int.tmod a0_0 3) == 0) = false := by simpa using c25); (try (have c25b1 : decide ((Int.tmod a0_0 3) = 0) = false := by simpa using c25)); (try (have c25b2 : ((Int.tmod a0_0 3) == 0) = false := by simpa using c25)); (try (have c25b3 : ¬ ((Int.tmod a0_0 3) = 0) := by simpa using c25)); clear c25; replace H := Option.bind_eq_some_iff.mp H; obtain ⟨⟨t110, t111⟩, A320, H⟩ := H; dsimp only at H; have A32 := A_ A320; clear A320; simp only [Option.some.injEq, Prod.mk.injEq] at H; obtain ⟨rfl, rfl, rfl, rfl, rfl, rfl, rfl, rfl, rfl, rfl⟩ := H; have hnb33 := NB107_108.out; have hnc33 := NB108_107.out; have hnb34 := NB107_109.out; have hnc34 := NB109_107.out; have hcz35 := bc6 BK107; have hnb36 := NB109_108.out; have hnc36 := NB108_109.out; have hcz37 := bc10 BK109; go_wp2_with (first | ((with_reducible refine gate_dst (N := 49) rfl ?_); refine gl (some 49) Try.func34 #[.int .u8 a0_0] ?_; (with_reducible refine (maquettelaw05_Make.calls kj15 a0_0 t110 t111 _ A32.out).mono ?_); rintro e w38 ⟨rfl, hb⟩; refine ⟨_, rfl, ?_⟩; replace BK107 := bkb BK107 hb; replace BK108 := bkb BK108 hb; replace BK109 := A_ (blk_below (g := gb109) (o := .cells #[.bool ((Int.tmod a0_0 3) == 0), .int .u32 0, .int .i64 0, .int .u8 x110003_1, .int .u8 x110004_15, .bool ((Int.tmod a0_3 4) == 3), .int .u8 ((Int.tdiv a0_3 16) % 256), .int .u8 ((Int.tdiv a0_4 16) % 256), .int .i64 (wrap64 (Int.tmod a0_4 4)), .int .i64 0] 116 (0, 0)) (bkp BK109) hb); replace HB := bst hb; (try clear hb); have hcz39 := bc10 BK109; have hcz40 := bc10 BK108)); refine bodyPost_ret (results_cell_row rfl _ _ gb108 116 #[.bool ((Int.tmod a0_0 3) == 0), .int .u32 t110, .int .i64 t111, .int .u8 x110003_1, .int .u8 x110004_15, .bool ((Int.tmod a0_3 4) == 3), .int .u8 ((Int.tdiv a0_3 16) % 256), .int .u8 ((Int.tdiv a0_4 16) % 256), .int .i64 (wrap64 (Int.tmod a0_4 4)), .int .i64 0] (0, 0) _ rfl (bkp BK108) Try.underlying116 rfl (by kernel_rfl)) rfl ?_; exact ⟨eqd, bel⟩
     ·rw [if_neg c24] at H
      have c24b0 := decide_eq_false c24; clear c24; by_cases c41 : ((Int.tmod a0_0 3) == 0) = true
      ·rw [if_pos c41] at H
       have c41b0 : ((Int.tmod a0_0 3) == 0) = true := c41; (try (have c41b1 : decide ((Int.tmod a0_0 3) = 0) = true := by simpa using c41)); (try (have c41b2 : ((Int.tmod a0_0 3) == 0) = true := by simpa using c41)); clear c41; simp only [Option.some.injEq, Prod.mk.injEq] at H; obtain ⟨rfl, rfl, rfl, rfl, rfl, rfl, rfl, rfl, rfl, rfl⟩ := H; have hnb42 := NB107_108.out; have hnc42 := NB108_107.out; have hnb43 := NB107_109.out; have hnc43 := NB109_107.out; have hcz44 := bc6 BK107; have hnb45 := NB109_108.out; have hnc45 := NB108_109.out; have hcz46 := bc10 BK109; have hcz47 := bc10 BK108; go_wp2; refine bodyPost_ret (results_cell_row rfl _ _ gb108 116 #[.bool ((Int.tmod a0_0 3) == 0), .int .u32 0, .int .i64 0, .int .u8 x110003_1, .int .u8 x110004_15, .bool ((Int.tmod a0_3 4) == 3), .int .u8 ((Int.tdiv a0_3 16) % 256), .int .u8 ((Int.tdiv a0_4 16) % 256), .int .i64 (wrap64 (Int.tmod a0_4 4)), .int .i64 (wrap64 (a0_5))] (0, 0) _ rfl (bkp BK108) Try.underlying116 rfl (by kernel_rfl)) rfl ?_; exact ⟨eqd, bel⟩
      ·rw [if_neg c41] at H
       (have c41b0 : ((Int.tmod a0_0 3) == 0) = false := by simpa using c41); (try (have c41b1 : decide ((Int.tmod a0_0 3) = 0) = false := by simpa using c41)); (try (have c41b2 : ((Int.tmod a0_0 3) == 0) = false := by simpa using c41)); (try (have c41b3 : ¬ ((Int.tmod a0_0 3) = 0) := by simpa using c41)); clear c41; replace H := Option.bind_eq_some_iff.mp H; obtain ⟨⟨t112, t113⟩, A480, H⟩ := H; dsimp only at H; have A48 := A_ A480; clear A480; simp only [Option.some.injEq, Prod.mk.injEq] at H; obtain ⟨rfl, rfl, rfl, rfl, rfl, rfl, rfl, rfl, rfl, rfl⟩ := H; have hnb49 := NB107_108.out; have hnc49 := NB108_107.out; have hnb50 := NB107_109.out; have hnc50 := NB109_107.out; have hcz51 := bc6 BK107; have hnb52 := NB109_108.out; have hnc52 := NB108_109.out; have hcz53 := bc10 BK109; go_wp2_with (first | ((with_reducible refine gate_dst (N := 49) rfl ?_); refine gl (some 49) Try.func34 #[.int .u8 a0_0] ?_; (with_reducible refine (maquettelaw05_Make.calls kj15 a0_0 t112 t113 _ A48.out).mono ?_); rintro e w54 ⟨rfl, hb⟩; refine ⟨_, rfl, ?_⟩; replace BK107 := bkb BK107 hb; replace BK108 := bkb BK108 hb; replace BK109 := bkb BK109 hb; replace HB := bst hb; (try clear hb); have hcz55 := bc10 BK109; have hcz56 := bc10 BK108)); refine bodyPost_ret (results_cell_row rfl _ _ gb108 116 #[.bool ((Int.tmod a0_0 3) == 0), .int .u32 t112, .int .i64 t113, .int .u8 x110003_1, .int .u8 x110004_15, .bool ((Int.tmod a0_3 4) == 3), .int .u8 ((Int.tdiv a0_3 16) % 256), .int .u8 ((Int.tdiv a0_4 16) % 256), .int .i64 (wrap64 (Int.tmod a0_4 4)), .int .i64 (wrap64 (a0_5))] (0, 0) _ rfl (bkp BK108) Try.underlying116 rfl (by kernel_rfl)) rfl ?_; exact ⟨eqd, bel⟩
def maquettelaw07_Clauses.l0 : Nat → List (S116) → List (S114) → Int → Int → Option ((List (S116)))
 | 0, _, _, _, _ => none
 | k + 1, x3, x6, x7, x8 => if x8 < x7 then (if 0 ≤ x8 then (if x8 < (x6.length : Int) then (if x8 < 5 then ((maquettelaw07_Rule_Clause.f k ((rd_T114 x6 x8).f0) ((rd_T114 x6 x8).f1) ((rd_T114 x6 x8).f2) ((rd_T114 x6 x8).f3) ((rd_T114 x6 x8).f4) ((rd_T114 x6 x8).f5)).bind fun bt116 => (if x3.length < 2932031007402 then (maquettelaw07_Clauses.l0 k (x3 ++ [(⟨bt116.1, (⟨bt116.2.1, bt116.2.2.1⟩ : S35), bt116.2.2.2.1, bt116.2.2.2.2.1, bt116.2.2.2.2.2.1, bt116.2.2.2.2.2.2.1, bt116.2.2.2.2.2.2.2.1, bt116.2.2.2.2.2.2.2.2.1, bt116.2.2.2.2.2.2.2.2.2⟩ : S116)]) x6 x7 (wrap64 (x8 + 1))) else (none))) else (maquettelaw07_Clauses.l0 k x3 x6 x7 (wrap64 (x8 + 1)))) else (none)) else (none)) else (some x3)
def maquettelaw07_Clauses.f (k : Nat) (l0 : List (S114)) : Option ((List (S116))) := maquettelaw07_Clauses.l0 k ([] : List (S116)) l0 (l0.length : Int) 0
theorem maquettelaw07_Clauses.mono_l : ∀ k, (∀ y0 y1 y2 y3, LeO (maquettelaw07_Clauses.l0 k y0 y1 y2 y3) (maquettelaw07_Clauses.l0 (k + 1) y0 y1 y2 y3))
 | 0 => fun _ _ _ _ r h => by simp [maquettelaw07_Clauses.l0] at h
 | k + 1 => by
  have ih0 := maquettelaw07_Clauses.mono_l k
  ·intro y0 y1 y2 y3
   unfold maquettelaw07_Clauses.l0; repeat' first
   | (with_reducible exact ih0 _ _ _ _)
   | (with_reducible exact maquettelaw07_Rule_Clause.mono _ _ _ _ _ _ _)
   | (with_reducible exact LeO.refl _)
   | (with_reducible exact LeO.none _)
   | (with_reducible refine LeO.ite ?_ ?_)
   | (with_reducible refine LeO.bind ?_ (fun _ => ?_))
   | exact ih0 _ _ _ _
   | exact maquettelaw07_Rule_Clause.mono _ _ _ _ _ _ _
   | exact LeO.none _
   | refine LeO.ite ?_ ?_
   | refine LeO.bind ?_ (fun _ => ?_)
theorem maquettelaw07_Clauses.mono : ∀ a0 k, LeO (maquettelaw07_Clauses.f k a0) (maquettelaw07_Clauses.f (k + 1) a0) := by
 intro a0 k; have ih0 := maquettelaw07_Clauses.mono_l k; unfold maquettelaw07_Clauses.f
 repeat' first
   | (with_reducible exact ih0 _ _ _ _)
   | (with_reducible exact maquettelaw07_Rule_Clause.mono _ _ _ _ _ _ _)
   | (with_reducible exact LeO.refl _)
   | (with_reducible exact LeO.none _)
   | (with_reducible refine LeO.ite ?_ ?_)
   | (with_reducible refine LeO.bind ?_ (fun _ => ?_))
   | exact ih0 _ _ _ _
   | exact maquettelaw07_Rule_Clause.mono _ _ _ _ _ _ _
   | exact LeO.none _
   | refine LeO.ite ?_ ?_
   | refine LeO.bind ?_ (fun _ => ?_)
set_option maxHeartbeats 8000000 in
set_option maxRecDepth 100000 in
theorem maquettelaw07_Clauses.calls (k : Nat) (A0 : Option Addr) (c0 : Nat) (l0 : List (S114)) (r : List (S116)) (w : World) (hr0 : Kd.C k114 w A0 l0.length l0) (hc0 : l0.length ≤ c0) (h : maquettelaw07_Clauses.f k l0 = some r) :
  Calls Try.prog 31 #[.slice A0 l0.length c0] w fun e w' => ∃ v0_ : Value, e = .returned (v0_) ∧ Kd.R k116 116 w' w.heap.size (fun _ => True) v0_ r ∧ Below w.heap.size w w' := by
 have hu114 := Try.underlying114; have HR0 := A_ hr0; have HC0 := A_ hc0; clear hr0 hc0; have HB := A_ (Below.refl w.heap.size w); unfold maquettelaw07_Clauses.f at h; have H := h; clear h; have H' := A_ H; clear H; go_enter Try.func31, Try.ntmps31; go_wp2; go_loopg [3, 8] k (fun kq v3 v8 w' => ∃ (x3_1 : List (S116)) (x8_1 : Int), v8 = .int .i64 x8_1 ∧ Aside0 (maquettelaw07_Clauses.l0 kq x3_1 l0 (l0.length : Int) x8_1 = some r) ∧ Aside0 (kq ≤ k) ∧ Aside0 (Kd.R k116 116 w' w.heap.size (fun _ => True) v3 x3_1) ∧ Aside0 (Below w.heap.size w w'))
 case atStart => exact ⟨(([] : List (S116))), (0), eqs, H', ⟨Nat.le_refl _⟩, ⟨by first | exact Kd.R_nil _ _ _ _ _ | exact Kd.N_nil _ _ _ _ _ | exact Kd.V_nil _ _ _ _ _ | exact Kd.Q_nil _ _ _ _ _ | exact Kd.S_nil _ _ _ _ _⟩, ⟨bel⟩⟩
 case round =>
  clear H'; obtain ⟨x3_1, x8_1, rfl, HA, HK1, HO_3, HB⟩ := hrel
  cases gk with
  | zero => exact absurd HA.out (by simp [maquettelaw07_Clauses.l0])
  | succ k1 =>
   have H := HA.out; clear HA; simp only [maquettelaw07_Clauses.l0] at H; by_cases c2 : x8_1 < (l0.length : Int)
   ·rw [if_pos c2] at H
    have c2b0 := decide_eq_true c2; clear c2; by_cases c3 : 0 ≤ x8_1
    ·rw [if_pos c3] at H
     have c3b0 := decide_eq_true c3; clear c3; by_cases c4 : x8_1 < (l0.length : Int)
     ·rw [if_pos c4] at H
      have c4b0 := decide_eq_true c4; clear c4; by_cases c5 : x8_1 < 5
      ·rw [if_pos c5] at H
       have c5b0 := decide_eq_true c5; clear c5; replace H := Option.bind_eq_some_iff.mp H; obtain ⟨⟨t116, t117, t118, t119, t120, t121, t122, t123, t124, t125⟩, A60, H⟩ := H; dsimp only at H; have A6 := A_ A60; clear A60; by_cases c7 : x3_1.length < 2932031007402
       ·rw [if_pos c7] at H
        have LMc7 := A_ c7; clear c7; obtain ⟨y126, hy126⟩ : ∃ y_ : List (S116), y_ = (x3_1 ++ [(⟨t116, (⟨t117, t118⟩ : S35), t119, t120, t121, t122, t123, t124, t125⟩ : S116)]) := ⟨_, rfl⟩; (first | rw [← hy126] at H | (have H2_ := (Option.bind_some _ _).symm.trans H; clear H; have H := H2_; clear H2_; (try rw [← hy126] at H))); have Ny126 := A_ hy126; clear hy126; have H' := A_ H; clear H; have p114 : 0 ≤ (x8_1 : Int) := odt; have q114 : x8_1 < (l0.length : Int) := odt; obtain ⟨ad114, e114, hx114_0, hx114_1, hx114_2, hx114_3, hx114_4, hx114_5⟩ := at_T114 HR0.out x8_1 p114 q114; cases e114; replace hx114_0 := hbc HB hx114_0; replace hx114_1 := hbc HB hx114_1; replace hx114_2 := hbc HB hx114_2; replace hx114_3 := hbc HB hx114_3; replace hx114_4 := hbc HB hx114_4; replace hx114_5 := hbc HB hx114_5; replace p114 := eq_true p114; replace q114 := eq_true q114
        go_wp2_with (first | ((with_reducible refine gate_dst (N := 5) rfl ?_); refine bx 5 (cs := #[.int .u8 0, .int .u8 0, .int .u8 0, .int .u8 0, .int .u8 0, .int .u8 0]) (t := 114) (h := ?_); intro gb115 hg w8 hbox hb; have BK115 := A_ hbox; have GW115 : Aside0 (w.heap.size ≤ gb115) := bge hg; replace HO_3 := A_ (Kd.R_below (kR HO_3) hb); replace HB := bst hb; clear hb hbox hg; have hcz9 := bc6 BK115) | ((with_reducible refine gate_dst (N := 17) rfl ?_); refine gl (some 17) Try.func47 #[.agg #[.int .u8 ((rd_T114 l0 x8_1).f0), .int .u8 ((rd_T114 l0 x8_1).f1), .int .u8 ((rd_T114 l0 x8_1).f2), .int .u8 ((rd_T114 l0 x8_1).f3), .int .u8 ((rd_T114 l0 x8_1).f4), .int .u8 ((rd_T114 l0 x8_1).f5)]] ?_; (with_reducible refine (maquettelaw07_Rule_Clause.calls k1 ((rd_T114 l0 x8_1).f0) ((rd_T114 l0 x8_1).f1) ((rd_T114 l0 x8_1).f2) ((rd_T114 l0 x8_1).f3) ((rd_T114 l0 x8_1).f4) ((rd_T114 l0 x8_1).f5) t116 t117 t118 t119 t120 t121 t122 t123 t124 t125 _ A6.out).mono ?_); rintro e w10 ⟨rfl, hb⟩; refine ⟨_, rfl, ?_⟩; replace HO_3 := A_ (Kd.R_below (by (with_reducible repeat (first | apply Kd.R_alloc | apply Kd.R_drewN | apply Kd.R_drew)); exact (Kd.R_mono (Kd.R_far (p := ⟨gb115, 5, none⟩) (Kd.R_far (p := ⟨gb115, 4, none⟩) (Kd.R_far (p := ⟨gb115, 3, none⟩) (Kd.R_far (p := ⟨gb115, 2, none⟩) (Kd.R_far (p := ⟨gb115, 1, none⟩) (Kd.R_far (p := ⟨gb115, 0, none⟩) (Kd.R_types HO_3.out BK115.out (by decide)) (fun _ hk => hk.2) (.int .u8 ((rd_T114 l0 x8_1).f0))) (fun _ hk => hk.2) (.int .u8 ((rd_T114 l0 x8_1).f1))) (fun _ hk => hk.2) (.int .u8 ((rd_T114 l0 x8_1).f2))) (fun _ hk => hk.2) (.int .u8 ((rd_T114 l0 x8_1).f3))) (fun _ hk => hk.2) (.int .u8 ((rd_T114 l0 x8_1).f4))) (fun _ hk => hk.2) (.int .u8 ((rd_T114 l0 x8_1).f5))) (fun _ h_ => h_.1))) hb); replace BK115 := A_ (blk_below (g := gb115) (o := .cells #[.int .u8 ((rd_T114 l0 x8_1).f0), .int .u8 ((rd_T114 l0 x8_1).f1), .int .u8 ((rd_T114 l0 x8_1).f2), .int .u8 ((rd_T114 l0 x8_1).f3), .int .u8 ((rd_T114 l0 x8_1).f4), .int .u8 ((rd_T114 l0 x8_1).f5)] 114 (0, 0)) (bkp BK115) hb); replace HB := bst hb; (try clear hb)) | ((with_reducible refine gate_builtin (b := .append) (xs := #[.tmp 15, .tmp 18]) rfl ?_); at_builtin; refine Kd.R_append k116 (w0 := w) w.heap.size rfl (.tmp 15) (.tmp 18) 49 116 (.agg #[(.bool false), (.int .u32 0), (.int .i64 0), (.int .u8 0), (.int .u8 0), (.bool false), (.int .u8 0), (.int .u8 0), (.int .i64 0), (.int .i64 0)]) 48 rfl Try.underlying49 info116 rfl (by decide) (by omega) u3 x3_1 (⟨t116, (⟨t117, t118⟩ : S35), t119, t120, t121, t122, t123, t124, t125⟩ : S116) [.bool t116, .int .u32 t117, .int .i64 t118, .int .u8 t119, .int .u8 t120, .bool t121, .int .u8 t122, .int .u8 t123, .int .i64 t124, .int .i64 t125] (fun _ => True) (fun _ => False) rfl rfl ?aP (fun _ hk => hk.elim) ?aF ?aO ?aB ?aS ?aL ?_; (case aP => exact k116_mkM _ _ _ (⟨t116, (⟨t117, t118⟩ : S35), t119, t120, t121, t122, t123, t124, t125⟩ : S116)); (case aB => exact bel); (case aF => exact (fun _ _ => trivial)); (case aO => exact (kR HO_3)); (case aS => exact (below_size bel)); (case aL => have := LMc7.out; omega); intro v127 w11 ho hb hg hat; rw [← Ny126.out] at ho; have HO128 := A_ ho; replace BK115 := A_ (blk_grown (bkq BK115) hg (Kd.R_ne HO_3.out BK115.out (by decide))); replace HB := A_ (hb); clear HO_3; clear ho hb hg hat))
        go_roundg k1
        case measure => have := HK1.out; omega
        case rel => exact ⟨(y126), (wrap64 (x8_1 + 1)), eqs, H', ⟨by have := HK1.out; omega⟩, ⟨fR HO128⟩, ⟨bel⟩⟩
       ·rw [if_neg c7] at H
        exact absurd H (by simp)
      ·rw [if_neg c5] at H
       have c5b0 := decide_eq_false c5; clear c5; have H' := A_ H; clear H; have p114 : 0 ≤ (x8_1 : Int) := odt; have q114 : x8_1 < (l0.length : Int) := odt; obtain ⟨ad114, e114, hx114_0, hx114_1, hx114_2, hx114_3, hx114_4, hx114_5⟩ := at_T114 HR0.out x8_1 p114 q114; cases e114; replace hx114_0 := hbc HB hx114_0; replace hx114_1 := hbc HB hx114_1; replace hx114_2 := hbc HB hx114_2; replace hx114_3 := hbc HB hx114_3; replace hx114_4 := hbc HB hx114_4; replace hx114_5 := hbc HB hx114_5; replace p114 := eq_true p114; replace q114 := eq_true q114; go_wp2_with (first | ((with_reducible refine gate_dst (N := 5) rfl ?_); refine bx 5 (cs := #[.int .u8 0, .int .u8 0, .int .u8 0, .int .u8 0, .int .u8 0, .int .u8 0]) (t := 114) (h := ?_); intro gb115 hg w12 hbox hb; have BK115 := A_ hbox; have GW115 : Aside0 (w.heap.size ≤ gb115) := bge hg; replace HO_3 := A_ (Kd.R_below (kR HO_3) hb); replace HB := bst hb; clear hb hbox hg; have hcz13 := bc6 BK115)); go_roundg k1
       case measure => have := HK1.out; omega
       case rel => exact ⟨(x3_1), (wrap64 (x8_1 + 1)), eqs, H', ⟨by have := HK1.out; omega⟩, ⟨by (with_reducible repeat (first | apply Kd.R_alloc | apply Kd.R_drewN | apply Kd.R_drew)); exact Kd.R_mono (Kd.R_far (p := ⟨gb115, 5, none⟩) (Kd.R_far (p := ⟨gb115, 4, none⟩) (Kd.R_far (p := ⟨gb115, 3, none⟩) (Kd.R_far (p := ⟨gb115, 2, none⟩) (Kd.R_far (p := ⟨gb115, 1, none⟩) (Kd.R_far (p := ⟨gb115, 0, none⟩) (Kd.R_types HO_3.out BK115.out (by decide)) (fun _ hk => hk.2) (.int .u8 ((rd_T114 l0 x8_1).f0))) (fun _ hk => hk.2) (.int .u8 ((rd_T114 l0 x8_1).f1))) (fun _ hk => hk.2) (.int .u8 ((rd_T114 l0 x8_1).f2))) (fun _ hk => hk.2) (.int .u8 ((rd_T114 l0 x8_1).f3))) (fun _ hk => hk.2) (.int .u8 ((rd_T114 l0 x8_1).f4))) (fun _ hk => hk.2) (.int .u8 ((rd_T114 l0 x8_1).f5))) (fun _ hk => trivial)⟩, ⟨bel⟩⟩
     ·rw [if_neg c4] at H
      exact absurd H (by simp)
    ·rw [if_neg c3] at H
     exact absurd H (by simp)
   ·rw [if_neg c2] at H
    have c2b0 := decide_eq_false c2; clear c2; obtain rfl := Option.some.inj H; go_wp2; go_ret; exact ⟨_, eqd, by (with_reducible repeat (first | apply Kd.R_alloc | apply Kd.R_drewN | apply Kd.R_drew)); exact HO_3.out, bel⟩
def maquettelaw07_Name.f (a0 : Int) : Option (ByteArray) := if 1 + (Utf8.encode (wrap32 (wrap64 (97 + a0)))).size ≤ 9223372036854775807 then (some ((⟨#[114]⟩ : ByteArray) ++ (Utf8.encode (wrap32 (wrap64 (97 + a0)))))) else (none)
set_option maxHeartbeats 8000000 in
set_option maxRecDepth 100000 in
theorem maquettelaw07_Name.calls (a0 : Int) (r : ByteArray) (w : World) (h : maquettelaw07_Name.f a0 = some r) :
  Calls Try.prog 32 #[.int .i64 a0] w fun e w' => e = .returned (.string r) ∧ Drawn0 w w' := by
 unfold maquettelaw07_Name.f at h; have H := h; clear h; by_cases c2 : 1 + (Utf8.encode (wrap32 (wrap64 (97 + a0)))).size ≤ 9223372036854775807
 ·rw [if_pos c2] at H
  have c2b0 := eq_true c2; have c2b1 := decide_eq_true c2; (try have c2b2 := eq_false (Nat.not_lt.2 c2)); obtain rfl := Option.some.inj H; go_enter Try.func32, Try.ntmps32; go_wp2; go_ret; exact ⟨by first | rfl | (simp; done) | (simp [*]; done), by repeat (first | exact Drawn0.refl _ | apply Drawn0.step)⟩
 ·rw [if_neg c2] at H
  exact absurd H (by simp)
def maquettelaw07_number.f (l0 : List Int) (a1 : Int) : Option (Int) := if (l0.length : Int) = 0 then (some 0) else (if 0 ≤ (Int.tmod a1 (l0.length : Int)) then (if (Int.tmod a1 (l0.length : Int)) < (l0.length : Int) then (some (wrap64 (rd l0 (Int.tmod a1 (l0.length : Int))))) else (none)) else (none))
set_option maxHeartbeats 8000000 in
set_option maxRecDepth 100000 in
theorem maquettelaw07_number.calls (A0 : Option Addr) (c0 : Nat) (l0 : List Int) (a1 : Int) (r : Int) (w : World) (hr0 : Kd.C (Kd.int .u8) w A0 l0.length l0) (hc0 : l0.length ≤ c0) (h : maquettelaw07_number.f l0 a1 = some r) :
  Calls Try.prog 33 #[.slice A0 l0.length c0, .int .i64 a1] w fun e w' => e = .returned (.int .i64 r) ∧ Drawn0 w w' := by
 have HR0 := A_ hr0; have HC0 := A_ hc0; clear hr0 hc0; unfold maquettelaw07_number.f at h; have H := h; clear h; by_cases c3 : (l0.length : Int) = 0
 ·rw [if_pos c3] at H
  have c3b0 : ((l0.length : Int) == 0) = true := beq_iff_eq.mpr c3; have c3b1 : ((l0.length : Int) != 0) = false := bne_eq_false_iff_eq.mpr c3; clear c3; obtain rfl := Option.some.inj H; go_enter Try.func33, Try.ntmps33; go_wp2; go_ret; exact ⟨by first | rfl | (simp; done) | (simp [*]; done), by repeat (first | exact Drawn0.refl _ | apply Drawn0.step)⟩
 ·rw [if_neg c3] at H
  have c3b0 : ((l0.length : Int) == 0) = false := beq_eq_false_iff_ne.mpr c3; have c3b1 : ((l0.length : Int) != 0) = true := bne_iff_ne.mpr c3; (have c3b2 : ¬ (l0 = []) := fun h_ => c3 (by rw [h_]; rfl)); obtain ⟨ji4, hji4⟩ : ∃ j_ : Int, (Int.tmod a1 (l0.length : Int)) = j_ := ⟨_, rfl⟩; (replace H : (if 0 ≤ (ji4) then (if (ji4) < (l0.length : Int) then (some (wrap64 (rd l0 (ji4)))) else (none)) else (none)) = some r := by first | (rw [hji4] at H; exact H) | (simp only [hji4] at H ⊢; exact H)); by_cases c5 : 0 ≤ (ji4)
  ·rw [if_pos c5] at H
   have c5b0 := decide_eq_true c5; clear c5; by_cases c6 : (ji4) < (l0.length : Int)
   ·rw [if_pos c6] at H
    have c6b0 := decide_eq_true c6; clear c6; obtain rfl := Option.some.inj H; have p129 : 0 ≤ ((ji4) : Int) := odt; have q129 : (ji4) < (l0.length : Int) := odt; obtain ⟨ad129, e129, hx129_0⟩ := Kd.at_int HR0.out (ji4) p129 q129; cases e129; replace p129 := eq_true p129; replace q129 := eq_true q129; go_enter Try.func33, Try.ntmps33; go_wp2; go_ret; exact ⟨by first | rfl | (simp; done) | (simp only [← hji4] <;> (first | rfl | simp)) | (simp [*]; done), by repeat (first | exact Drawn0.refl _ | apply Drawn0.step)⟩
   ·rw [if_neg c6] at H
    exact absurd H (by simp)
  ·rw [if_neg c5] at H
   exact absurd H (by simp)
def maquettelaw07_Shape_mapped.f (a0_0 : Int) (l0_1 : List Int) (l0_2 : List (List (S114))) (l0_3 : List Int) (l0_4 : List Int) (l0_5 : List Int) (a1 : Int) : Option (ByteArray) := if (mn (l0_2.length : Int) 4) = 0 then (some (⟨#[]⟩ : ByteArray)) else (if (Int.tmod a1 3) > 0 then (some (⟨#[]⟩ : ByteArray)) else (if 1 + (Utf8.encode (wrap32 (wrap64 (97 + (Int.tmod (wrap64 (Int.tdiv a1 3)) (mn (l0_2.length : Int) 4)))))).size ≤ 9223372036854775807 then (some ((⟨#[109]⟩ : ByteArray) ++ (Utf8.encode (wrap32 (wrap64 (97 + (Int.tmod (wrap64 (Int.tdiv a1 3)) (mn (l0_2.length : Int) 4)))))))) else (none)))
set_option maxHeartbeats 8000000 in
set_option maxRecDepth 100000 in
theorem maquettelaw07_Shape_mapped.calls (a0_0 : Int) (A0_1 : Option Addr) (c0_1 : Nat) (l0_1 : List Int) (A0_2 : Option Addr) (c0_2 : Nat) (l0_2 : List (List (S114))) (A0_3 : Option Addr) (c0_3 : Nat) (l0_3 : List Int) (A0_4 : Option Addr) (c0_4 : Nat) (l0_4 : List Int) (A0_5 : Option Addr) (c0_5 : Nat) (l0_5 : List Int) (a1 : Int) (r : ByteArray) (w : World) (hr0_1 : Kd.C (Kd.int .u8) w A0_1 l0_1.length l0_1) (hc0_1 : l0_1.length ≤ c0_1) (hr0_2 : Kd.C (Kd.slice 114 k114) w A0_2 l0_2.length l0_2) (hc0_2 : l0_2.length ≤ c0_2) (hr0_3 : Kd.C (Kd.int .u8) w A0_3 l0_3.length l0_3) (hc0_3 : l0_3.length ≤ c0_3) (hr0_4 : Kd.C (Kd.int .u8) w A0_4 l0_4.length l0_4) (hc0_4 : l0_4.length ≤ c0_4) (hr0_5 : Kd.C (Kd.int .u8) w A0_5 l0_5.length l0_5) (hc0_5 : l0_5.length ≤ c0_5) (h : maquettelaw07_Shape_mapped.f a0_0 l0_1 l0_2 l0_3 l0_4 l0_5 a1 = some r) :
  Calls Try.prog 35 #[.agg #[.int .u8 a0_0, .slice A0_1 l0_1.length c0_1, .slice A0_2 l0_2.length c0_2, .slice A0_3 l0_3.length c0_3, .slice A0_4 l0_4.length c0_4, .slice A0_5 l0_5.length c0_5], .int .i64 a1] w fun e w' => e = .returned (.string r) ∧ Below w.heap.size w w' := by
 have hu25 := Try.underlying25; have HR0_1 := A_ hr0_1; have HC0_1 := A_ hc0_1; clear hr0_1 hc0_1; have HR0_2 := A_ hr0_2; have HC0_2 := A_ hc0_2; clear hr0_2 hc0_2; have HR0_3 := A_ hr0_3; have HC0_3 := A_ hc0_3; clear hr0_3 hc0_3; have HR0_4 := A_ hr0_4; have HC0_4 := A_ hc0_4; clear hr0_4 hc0_4; have HR0_5 := A_ hr0_5; have HC0_5 := A_ hc0_5; clear hr0_5 hc0_5; have HB := A_ (Below.refl w.heap.size w); unfold maquettelaw07_Shape_mapped.f at h; have H := h; clear h; obtain ⟨ji3, hji3⟩ : ∃ j_ : Int, (mn (l0_2.length : Int) 4) = j_ := ⟨_, rfl⟩; (replace H : (if (ji3) = 0 then (some (⟨#[]⟩ : ByteArray)) else (if (Int.tmod a1 3) > 0 then (some (⟨#[]⟩ : ByteArray)) else (if 1 + (Utf8.encode (wrap32 (wrap64 (97 + (Int.tmod (wrap64 (Int.tdiv a1 3)) (ji3)))))).size ≤ 9223372036854775807 then (some ((⟨#[109]⟩ : ByteArray) ++ (Utf8.encode (wrap32 (wrap64 (97 + (Int.tmod (wrap64 (Int.tdiv a1 3)) (ji3)))))))) else (none)))) = some r := by first | (rw [hji3] at H; exact H) | (simp only [hji3] at H ⊢; exact H)); (try (have hji3h : ji3 ≤ 4 := by (rw [← hji3]; unfold mn; (repeat' split) <;> omega))); (try (have hji3g : ji3 ≤ 64 := by omega)); (try (have hji3l : 0 ≤ ji3 := by (rw [← hji3]; unfold mn; (repeat' split) <;> omega))); (try (have hji3m : 0 ≤ ji3 := by omega)); have hji3_ : (if 4 < (l0_2.length : Int) then 4 else (l0_2.length : Int)) = ji3 := hji3; by_cases c4 : (ji3) = 0
 ·rw [if_pos c4] at H
  have c4b0 : ((ji3) == 0) = true := beq_iff_eq.mpr c4; have c4b1 : ((ji3) != 0) = false := bne_eq_false_iff_eq.mpr c4; clear c4; obtain rfl := Option.some.inj H; go_enter Try.func35, Try.ntmps35; go_wp2_with (first | ((with_reducible refine gate_dst (N := 2) rfl ?_); refine bx 2 (cs := #[.int .u8 a0_0, .slice A0_1 l0_1.length c0_1, .slice A0_2 l0_2.length c0_2, .slice A0_3 l0_3.length c0_3, .slice A0_4 l0_4.length c0_4, .slice A0_5 l0_5.length c0_5]) (t := 25) (h := ?_); intro gb130 hg w5 hbox hb; have BK130 := A_ hbox; have GW130 : Aside0 (w.heap.size ≤ gb130) := bge hg; replace HB := bst hb; clear hb hbox hg; have hcz6 := bc6 BK130)); go_ret; exact ⟨by first | rfl | (simp [errW_none, errW_some] <;> rfl) | (simp only [← hji3]; first | rfl | (simp [errW_none, errW_some] <;> rfl)) | (simp [*, errW_none, errW_some] <;> rfl), bel⟩
 ·rw [if_neg c4] at H
  have c4b0 : ((ji3) == 0) = false := beq_eq_false_iff_ne.mpr c4; have c4b1 : ((ji3) != 0) = true := bne_iff_ne.mpr c4; by_cases c7 : (Int.tmod a1 3) > 0
  ·rw [if_pos c7] at H
   have c7b0 : decide (0 < (Int.tmod a1 3)) = true := decide_eq_true c7; clear c7; obtain rfl := Option.some.inj H; go_enter Try.func35, Try.ntmps35; go_wp2_with (first | ((with_reducible refine gate_dst (N := 2) rfl ?_); refine bx 2 (cs := #[.int .u8 a0_0, .slice A0_1 l0_1.length c0_1, .slice A0_2 l0_2.length c0_2, .slice A0_3 l0_3.length c0_3, .slice A0_4 l0_4.length c0_4, .slice A0_5 l0_5.length c0_5]) (t := 25) (h := ?_); intro gb130 hg w8 hbox hb; have BK130 := A_ hbox; have GW130 : Aside0 (w.heap.size ≤ gb130) := bge hg; replace HB := bst hb; clear hb hbox hg; have hcz9 := bc6 BK130)); go_ret; exact ⟨by first | rfl | (simp [errW_none, errW_some] <;> rfl) | (simp only [← hji3]; first | rfl | (simp [errW_none, errW_some] <;> rfl)) | (simp [*, errW_none, errW_some] <;> rfl), bel⟩
  ·rw [if_neg c7] at H
   have c7b0 : decide (0 < (Int.tmod a1 3)) = false := decide_eq_false c7; clear c7; by_cases c10 : 1 + (Utf8.encode (wrap32 (wrap64 (97 + (Int.tmod (wrap64 (Int.tdiv a1 3)) (ji3)))))).size ≤ 9223372036854775807
   ·rw [if_pos c10] at H
    have c10b0 := eq_true c10; have c10b1 := decide_eq_true c10; (try have c10b2 := eq_false (Nat.not_lt.2 c10)); obtain rfl := Option.some.inj H; go_enter Try.func35, Try.ntmps35; go_wp2_with (first | ((with_reducible refine gate_dst (N := 2) rfl ?_); refine bx 2 (cs := #[.int .u8 a0_0, .slice A0_1 l0_1.length c0_1, .slice A0_2 l0_2.length c0_2, .slice A0_3 l0_3.length c0_3, .slice A0_4 l0_4.length c0_4, .slice A0_5 l0_5.length c0_5]) (t := 25) (h := ?_); intro gb130 hg w11 hbox hb; have BK130 := A_ hbox; have GW130 : Aside0 (w.heap.size ≤ gb130) := bge hg; replace HB := bst hb; clear hb hbox hg; have hcz12 := bc6 BK130)); go_ret; exact ⟨by first | rfl | (simp [errW_none, errW_some] <;> rfl) | (simp only [← hji3]; first | rfl | (simp [errW_none, errW_some] <;> rfl)) | (simp [*, errW_none, errW_some] <;> rfl), bel⟩
   ·rw [if_neg c10] at H
    exact absurd H (by simp)
end Go.Proofs.Ytcagkdgpoijkoaa.PLm
end
