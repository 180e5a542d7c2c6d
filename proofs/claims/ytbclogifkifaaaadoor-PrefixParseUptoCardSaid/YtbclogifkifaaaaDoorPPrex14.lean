-- Written by wip/xprint.py of this work: the printer of the kit, with contracts of this work beside it, shortened.
import Derived.Test.YtbclogifkifaaaaDoorShort
import Derived.Test.YtbclogifkifaaaaDoorPPrex0
namespace Go.Proofs.YtbclogifkifaaaaDoor.PPre
open Go.RowKit Go.Proofs.YtbclogifkifaaaaDoor.Short Go.Proofs.YtbclogifkifaaaaDoorW.PrintWords Go.Proofs.YtbclogifkifaaaaDoorW.PrintLast Go.Proofs.YtbclogifkifaaaaDoorW.PrintMore
attribute [local go_sem] max2_int min2_int max_two min_two max_three min_three max_four min_four   -- for this text's walks alone
set_option linter.unusedVariables false
set_option linter.unusedSimpArgs false

/-! ### maquettelaw05_Make: function 6 -/
def maquettelaw05_Make.l0 : Nat → Int → Int → Int → Option (Int × Int)
 | 0, _, _, _ => none
 | k + 1, x5, x144000, x144001 => if x5 < 32 then (if 0 ≤ (wrap64 (31 - x5)) then (maquettelaw05_Make.l0 k (wrap64 (x5 + 1)) (Go.bits .andNot .u32 x144000 (shl .u32 1 (wrap64 (31 - x5)))) x144001) else (none)) else (some (x144000, x144001))
def maquettelaw05_Make.f (k : Nat) (a0 : Int) : Option (Int × Int) := (some (([0, 8, 16, 24, 32, 9, 17, 30] : List Int) : List Int)).bind fun y139 => (if 0 ≤ (Int.tmod a0 8) then (if (Int.tmod a0 8) < (y139.length : Int) then (maquettelaw05_Make.l0 k (rd y139 (Int.tmod a0 8)) (((167772160 + (((Int.tdiv a0 64) % 256) * 65536)) + ((((Int.tdiv a0 16) % 256) % 4) * 256)) + (((Int.tdiv a0 8) % 256) % 2)) (rd y139 (Int.tmod a0 8))) else (none)) else (none))
theorem maquettelaw05_Make.mono_l : ∀ k, (∀ y0 y1 y2, LeO (maquettelaw05_Make.l0 k y0 y1 y2) (maquettelaw05_Make.l0 (k + 1) y0 y1 y2))
 | 0 => fun _ _ _ r h => by simp [maquettelaw05_Make.l0] at h
 | k + 1 => by
  have ih0 := maquettelaw05_Make.mono_l k
  ·intro y0 y1 y2
   unfold maquettelaw05_Make.l0
   repeat' first
   | (with_reducible exact ih0 _ _ _)
   | (with_reducible exact LeO.refl _)
   | (with_reducible exact LeO.none _)
   | (with_reducible refine LeO.ite ?_ ?_)
   | (with_reducible refine LeO.bind ?_ (fun _ => ?_))
   | exact ih0 _ _ _
   | exact LeO.none _
   | refine LeO.ite ?_ ?_
   | refine LeO.bind ?_ (fun _ => ?_)
theorem maquettelaw05_Make.mono : ∀ a0 k, LeO (maquettelaw05_Make.f k a0) (maquettelaw05_Make.f (k + 1) a0) := by
 intro a0 k
 have ih0 := maquettelaw05_Make.mono_l k
 unfold maquettelaw05_Make.f
 repeat' first
   | (with_reducible exact ih0 _ _ _)
   | (with_reducible exact LeO.refl _)
   | (with_reducible exact LeO.none _)
   | (with_reducible refine LeO.ite ?_ ?_)
   | (with_reducible refine LeO.bind ?_ (fun _ => ?_))
   | exact ih0 _ _ _
   | exact LeO.none _
   | refine LeO.ite ?_ ?_
   | refine LeO.bind ?_ (fun _ => ?_)
def maquettelaw05_Make.T6 : Bool × List (List Nat × List Nat) := (true, [([], []), ([0], [0]), ([], []), ([2], [2]), ([3], [3]), ([1, 4], [1, 4]), ([0, 1, 2, 3, 4, 5], []), ([6, 5, 0, 1, 2, 3, 4, 5], [5, 6])])
def maquettelaw05_Make.B6 : List Nat := [0, 1, 0, 4, 12, 31, 63, 127]
theorem maquettelaw05_Make.tab6 : rtab .any (opsOf Tryd.f6 6) = maquettelaw05_Make.T6 := by kernel_rfl
theorem maquettelaw05_Make.bits6 : waitsOk maquettelaw05_Make.T6.2 maquettelaw05_Make.B6 = true := by kernel_rfl
set_option maxHeartbeats 8000000 in
set_option maxRecDepth 100000 in
theorem maquettelaw05_Make.calls (k : Nat) (a0 : Int) (r1 : Int) (r2 : Int) (w : World) (h : maquettelaw05_Make.f k a0 = some (r1, r2)) :
  Calls Tryd.prog 6 #[.int .u8 a0] w fun e w' => e = .returned (.agg #[.int .u32 r1, .int .i64 r2]) ∧ Below w.heap.size w w' := by
 have hu27 := Tryd.underlying27
 have HB := Aside0.mk (Below.refl w.heap.size w)
 have H : ((some (([0, 8, 16, 24, 32, 9, 17, 30] : List Int) : List Int)).bind fun y139 => (if 0 ≤ (Int.tmod a0 8) then (if (Int.tmod a0 8) < (y139.length : Int) then (maquettelaw05_Make.l0 k (rd y139 (Int.tmod a0 8)) (((167772160 + (((Int.tdiv a0 64) % 256) * 65536)) + ((((Int.tdiv a0 16) % 256) % 4) * 256)) + (((Int.tdiv a0 8) % 256) % 2)) (rd y139 (Int.tmod a0 8))) else (none)) else (none))) = some (r1, r2) := h
 clear h
 obtain ⟨y139, hy139⟩ : ∃ y_ : List Int, y_ = (([0, 8, 16, 24, 32, 9, 17, 30] : List Int)) := ⟨_, rfl⟩
 replace H : (if 0 ≤ (Int.tmod a0 8) then (if (Int.tmod a0 8) < (y139.length : Int) then (maquettelaw05_Make.l0 k (rd y139 (Int.tmod a0 8)) (((167772160 + (((Int.tdiv a0 64) % 256) * 65536)) + ((((Int.tdiv a0 16) % 256) % 4) * 256)) + (((Int.tdiv a0 8) % 256) % 2)) (rd y139 (Int.tmod a0 8))) else (none)) else (none)) = some (r1, r2) := by first | (rw [hy139]; with_reducible exact H) | (have H2_ := (Option.bind_some _ _).symm.trans H; rw [hy139]; with_reducible exact H2_) | (have H2_ := (Option.bind_some _ _).symm.trans H; with_reducible exact H2_) | with_reducible exact H | (rw [hy139]; exact H) | exact H
 have Ny139 := Aside0.mk hy139
 clear hy139
 obtain ⟨ji2, hji2⟩ : ∃ j_ : Int, (Int.tmod a0 8) = j_ := ⟨_, rfl⟩
 replace H : (if 0 ≤ (ji2) then (if (ji2) < (y139.length : Int) then (maquettelaw05_Make.l0 k (rd y139 (ji2)) (((167772160 + (((Int.tdiv a0 64) % 256) * 65536)) + ((((Int.tdiv a0 16) % 256) % 4) * 256)) + (((Int.tdiv a0 8) % 256) % 2)) (rd y139 (ji2))) else (none)) else (none)) = some (r1, r2) := by first | (rw [hji2] at H; exact H) | (simp only [hji2] at H ⊢; exact H)
 by_cases c3 : 0 ≤ (ji2)
 ·rw [if_pos c3] at H
  have c3b0 := decide_eq_true c3
  clear c3
  by_cases c4 : (ji2) < (y139.length : Int)
  ·rw [if_pos c4] at H
   have c4b0 := decide_eq_true c4
   clear c4
   have H' := Aside0.mk H
   clear H
   go_enter Tryd.func6, Tryd.ntmps6
   go_wp2_with (first | ((with_reducible refine gate_dst (N := 2) rfl ?_); refine bx 2 (cs := #[.int .u32 0, .int .i64 0]) (t := 27) (h := ?_); intro gb138 hg w5 hbox hb; have BK138 := Aside0.mk hbox; have GW138 : Aside0 (w.heap.size ≤ gb138) := bge hg; have GE138 : Aside0 (w.heap.size ≤ gb138) := bge hg; replace HB := bst hb; clear hb hbox hg) | ((with_reducible refine gate_dst (N := 6) rfl ?_); refine Kd.R_lit (Kd.int .i64) _ 3 ?hg (N := 6) ?hd (xs := ([0, 8, 16, 24, 32, 9, 17, 30] : List Int)) (inner := [.int .i64 0, .int .i64 8, .int .i64 16, .int .i64 24, .int .i64 32, .int .i64 9, .int .i64 17, .int .i64 30]) (ok := fun _ => True) (okp := fun _ => True) ?hr ?hp (fun _ hk => hk) trivial (Below.refl _ _) (Nat.le_refl _) (by simp) ?_; (case hd => rfl); (case hg => rfl); (case hr => first | (go_simp; done) | (go_simp; rfl)); (case hp => exact (Reps.one (show Kd.M (Kd.int .i64) _ _ _ 0 [.int .i64 0] from rfl) (Reps.one (show Kd.M (Kd.int .i64) _ _ _ 8 [.int .i64 8] from rfl) (Reps.one (show Kd.M (Kd.int .i64) _ _ _ 16 [.int .i64 16] from rfl) (Reps.one (show Kd.M (Kd.int .i64) _ _ _ 24 [.int .i64 24] from rfl) (Reps.one (show Kd.M (Kd.int .i64) _ _ _ 32 [.int .i64 32] from rfl) (Reps.one (show Kd.M (Kd.int .i64) _ _ _ 9 [.int .i64 9] from rfl) (Reps.one (show Kd.M (Kd.int .i64) _ _ _ 17 [.int .i64 17] from rfl) (Reps.one (show Kd.M (Kd.int .i64) _ _ _ 30 [.int .i64 30] from rfl) (Reps.none _ _)))))))))); intro v140 w6 ho7 hb hg_ hnew_; clear hg_ hnew_; (first | rw [← Ny139.out] at ho7 | (simp only [Int.reduceToNat] at ho7; rw [← Ny139.out] at ho7)); have HO141 := Aside0.mk (Kd.R_lower ho7 (below_size bel)); replace BK138 := bkb BK138 hb; replace HB := bst hb; clear hb ho7; obtain ⟨Ao8, co8, eo8⟩ := Kd.R_slice HO141.out; subst eo8; have p142 : 0 ≤ ((ji2) : Int) := of_decide_eq_true (by first | (with_reducible assumption) | assumption); have q142 : (ji2) < (y139.length : Int) := of_decide_eq_true (by first | (with_reducible assumption) | assumption); obtain ⟨ad142, e142, hx142_0⟩ := Kd.at_int (Kd.R_reads' HO141.out).2.2 (ji2) p142 q142; cases e142; replace p142 := eq_true p142; replace q142 := eq_true q142) | ((with_reducible refine gate_dst (N := 4) rfl ?_); refine bx 4 (cs := #[.int .u32 0, .int .i64 0]) (t := 27) (h := ?_); intro gb143 hg w9 hbox hb; have BK143 := Aside0.mk hbox; have GW143 : Aside0 (w.heap.size ≤ gb143) := bge hg; have GE143 : Aside0 (w.heap.size ≤ gb143) := bge hg; have NB138_143 := bne BK138 hg; have NB143_138 := bnf BK138 hg; replace HO141 := Aside0.mk (Kd.R_below (kR HO141) hb); replace BK138 := bkb BK138 hb; replace HB := bst hb; clear hb hbox hg; have hnb10 := NB143_138.out; have hnc10 := NB138_143.out; obtain ⟨hcz11_0, hcz11_1, hfz11_0, hfz11_1⟩ := bc2 BK143))
   go_loopg [5] k (fun kq v5 w' => ∃ (x5_1 : Int) (x144000_1 : Int), v5 = .int .i64 x5_1 ∧ Aside0 (maquettelaw05_Make.l0 kq x5_1 x144000_1 (rd y139 (ji2)) = some (r1, r2)) ∧ Aside0 (kq ≤ k) ∧ Aside0 (w'.heap[gb138]? = some (.cells #[.int .u32 0, .int .i64 0] 27 (0, 0))) ∧ Aside0 (w'.heap[gb143]? = some (.cells #[.int .u32 x144000_1, .int .i64 (rd y139 (ji2))] 27 (0, 0))) ∧ Aside0 (Below w.heap.size w w'))
   case atStart => exact ⟨(rd y139 (ji2)), (((167772160 + (((Int.tdiv a0 64) % 256) * 65536)) + ((((Int.tdiv a0 16) % 256) % 4) * 256)) + (((Int.tdiv a0 8) % 256) % 2)), (by first | rfl | (simp; done) | (simp only [← hji2] <;> (first | rfl | simp)) | (simp [*]; done)), H', ⟨Nat.le_refl _⟩, ⟨bkq BK138⟩, ⟨bkp BK143⟩, ⟨by repeat (first | (with_reducible first | exact HB.out | apply below_alloc | apply pw_below_drewN | apply below_drew1 | refine below_set ?_ GE138.out | refine below_set ?_ GE143.out) | exact HB.out)⟩⟩
   case round =>
    clear H'
    try clear c1
    try clear p1
    try clear q1
    try clear hx1
    try clear p2
    try clear c3
    try clear c3b0
    try clear c4
    try clear c4b0
    try clear c6
    try clear c10
    try clear hcz11_0 hcz11_1 hfz11_0 hfz11_1
    try clear hx142_0
    try clear p142
    try clear q142
    obtain ⟨x5_1, x144000_1, rfl, HA, HK1, BK138, BK143, HB⟩ := hrel
    cases gk with
    | zero => exact absurd HA.out (by simp [maquettelaw05_Make.l0])
    | succ k1 =>
     have H := HA.out
     clear HA
     simp only [maquettelaw05_Make.l0] at H
     by_cases c12 : x5_1 < 32
     ·rw [if_pos c12] at H
      have c12b0 := decide_eq_true c12
      clear c12
      obtain ⟨ji13, hji13⟩ : ∃ j_ : Int, (wrap64 (31 - x5_1)) = j_ := ⟨_, rfl⟩
      replace H : (if 0 ≤ (ji13) then (maquettelaw05_Make.l0 k1 (wrap64 (x5_1 + 1)) (Go.bits .andNot .u32 x144000_1 (shl .u32 1 (ji13))) (rd y139 (ji2))) else (none)) = some (r1, r2) := by first | (rw [hji13] at H; exact H) | (simp only [hji13] at H ⊢; exact H)
      have hji13w : (IntKind.i64.wrap (31 - x5_1)) = ji13 := (i64_w _).trans hji13
      by_cases c14 : 0 ≤ (ji13)
      ·rw [if_pos c14] at H
       have c14b0 := eq_true c14
       have c14b1 := decide_eq_true c14
       clear c14
       obtain ⟨ji15, hji15⟩ : ∃ j_ : Int, (shl .u32 1 (ji13)) = j_ := ⟨_, rfl⟩
       replace H : (maquettelaw05_Make.l0 k1 (wrap64 (x5_1 + 1)) (Go.bits .andNot .u32 x144000_1 (ji15)) (rd y139 (ji2))) = some (r1, r2) := by first | (rw [hji15] at H; exact H) | (simp only [hji15] at H ⊢; exact H)
       have hji15_ : (IntKind.u32.wrap (1 * 2 ^ min (ji13).toNat 32)) = ji15 := hji15
       have hji15z : (ji13) ≤ 32 → (IntKind.u32.wrap (1 * 2 ^ (ji13).toNat)) = ji15 := shl_small hji15
       have hji15u : (IntKind.u32.wrap (2 ^ min (ji13).toNat 32)) = ji15 := by have h_ := hji15_; rw [Int.one_mul] at h_; exact h_
       have hji15v : (ji13) ≤ 32 → (IntKind.u32.wrap (2 ^ (ji13).toNat)) = ji15 := fun hle_ => by have h_ := hji15z hle_; rw [Int.one_mul] at h_; exact h_
       have H' := Aside0.mk H
       clear H
       try go_wp2
       replace BK138 := Aside0.mk (blk_drew BK138.out)
       replace BK143 := Aside0.mk (blk_drew BK143.out)
       replace HB := Aside0.mk (below_drew1 HB.out)
       refine start_ (n := 8) (S := fun w' => CE2 w' gb143 (.int .u32 x144000_1) (.int .i64 (rd y139 (ji2)))) (ds := [7]) #[false, false, false, false, false, false, false, false] (by kernel_rfl) rfl rfl (he2 BK143) (fun hHeld => ?_); refine with_tabW maquettelaw05_Make.tab6 maquettelaw05_Make.bits6 (fun HT_ HW_ => ?_)
       generalize wr.drew = w16 at BK138 BK143 HB hHeld ⊢
       refine pu HT_ 0 (some 34) (mk 8 1) ?_
       refine pu HT_ 2 (some 36) (mk 8 5) ?_
       refine pu HT_ 3 (some 37) (mk 8 13) ?_
       refine pu HT_ 4 (some 38) (mk 8 29) ?_
       refine tk HT_ HW_ 1 (some 35) (mk 8 31) hHeld ?_
       refine pu HT_ 5 (some 39) (mk 8 63) ?_
       refine pu HT_ 6 (some 40) (mk 8 127) ?_
       refine la HT_ 7 (none) (mk 8 255) fun K hK => ?_
       have hs17 : w16.cell? ⟨gb143, 0, none⟩ = some (.int .u32 x144000_1) := (blk_cell BK143.out 0).trans rfl
       have hfs17 := blk_frozen BK143.out 0
       have hns17_0 := NB138_143.out
       have hms17_0 := NB143_138.out
       refine skip_ (w1 := ?_) (by rfl) rfl ?_ ?_
       rotate_left
       ·go_simp
        rfl
       refine hK.out _ _ ?_
       clear hK K
       refine done_ (done_of HT_.out (by kernel_rfl)) ?_
       try go_wp2
       go_roundg k1
       case measure => have := HK1.out; omega
       case rel => exact ⟨(wrap64 (x5_1 + 1)), (Go.bits .andNot .u32 x144000_1 (ji15)), (by first | rfl | (simp; done) | (simp [*]; done)), H', ⟨by have := HK1.out; omega⟩, ⟨bkq BK138⟩, ⟨bkp BK143⟩, ⟨by repeat (first | (with_reducible first | exact HB.out | apply below_alloc | apply pw_below_drewN | apply below_drew1 | refine below_set ?_ GE138.out | refine below_set ?_ GE143.out) | exact HB.out)⟩⟩
      ·rw [if_neg c14] at H
       exact absurd H (by simp)
     ·rw [if_neg c12] at H
      have c12b0 := decide_eq_false c12
      clear c12
      simp only [Option.some.injEq, Prod.mk.injEq] at H
      obtain ⟨rfl, rfl⟩ := H
      have hnb18 := NB143_138.out
      have hnc18 := NB138_143.out
      obtain ⟨hcz19_0, hcz19_1, hfz19_0, hfz19_1⟩ := bc2 BK143
      obtain ⟨hcz20_0, hcz20_1, hfz20_0, hfz20_1⟩ := bc2 BK138
      go_wp2
      refine bodyPost_ret (results_cell_row rfl _ _ gb138 27 #[.int .u32 x144000_1, .int .i64 (rd y139 (ji2))] (0, 0) _ rfl (bkp BK138) Tryd.underlying27 rfl (by kernel_rfl)) rfl ?_
      exact ⟨by first | rfl | (simp [errW_none, errW_some] <;> rfl) | (simp only [← hji2]; first | rfl | (simp [errW_none, errW_some] <;> rfl)) | (simp [*, errW_none, errW_some] <;> rfl), by repeat (first | (with_reducible first | exact HB.out | apply below_alloc | apply pw_below_drewN | apply below_drew1 | refine below_set ?_ GE138.out | refine below_set ?_ GE143.out) | exact HB.out)⟩
  ·rw [if_neg c4] at H
   exact absurd H (by simp)
 ·rw [if_neg c3] at H
  exact absurd H (by simp)

end Go.Proofs.YtbclogifkifaaaaDoor.PPre
