-- Written by wip/xprint.py of this work: the printer of the kit, with contracts of this work beside it, shortened.
import Derived.Test.YtkhbpjhlekldpaaShort
import Derived.Test.YtkhbpjhlekldpaaPLiftx0
import Derived.Test.YtkhbpjhlekldpaaPLiftx6
namespace Go.Proofs.Ytkhbpjhlekldpaa.PLift
open Go.RowKit Go.Proofs.Ytkhbpjhlekldpaa.Short Go.Proofs.YtkhbpjhlekldpaaW.PrintWords Go.Proofs.YtkhbpjhlekldpaaW.PrintLast Go.Proofs.YtkhbpjhlekldpaaW.PrintMore
attribute [local go_sem] max2_int min2_int max_two min_two max_three min_three max_four min_four   -- for this text's walks alone
set_option linter.unusedVariables false
set_option linter.unusedSimpArgs false

/-! ### clause_Do: function 49 -/
def clause_Do.l0 : Nat → List (S119) → Int → Int → Int → Int → Bool → Int → Int → Int → Option (Bool × Int × Int × Int)
 | 0, _, _, _, _, _, _, _, _, _ => none
 | k + 1, x13, x14, x15, x127000, x127001, x128000, x128001, x128002, x128003 => if x15 < x14 then (if 0 ≤ x15 then (if x15 < (x13.length : Int) then ((clause_Matches.f ((rd_T119 x13 x15).f0) ((rd_T119 x13 x15).f1.f0) ((rd_T119 x13 x15).f1.f1) ((rd_T119 x13 x15).f2) ((rd_T119 x13 x15).f3) ((rd_T119 x13 x15).f4) ((rd_T119 x13 x15).f5) ((rd_T119 x13 x15).f6) ((rd_T119 x13 x15).f7) ((rd_T119 x13 x15).f8) x127000 x127001 x128003).bind fun t131 => (if t131 = true then (if (rd_T119 x13 x15).f4 = true then (some (false, 0, 0, 0)) else (if ((rd_T119 x13 x15).f8) > 0 then (if ((rd_T119 x13 x15).f8) ≤ 255 then (some (x128000, (rd_T119 x13 x15).f8, wrap64 (x128002 + (mx 0 (mn ((rd_T119 x13 x15).f7) 15))), Go.bits .and .u8 (Go.bits .andNot .u8 (Go.bits .or .u8 x128003 ((rd_T119 x13 x15).f5)) ((rd_T119 x13 x15).f6)) 15)) else (some (x128000, x128001, wrap64 (x128002 + (mx 0 (mn ((rd_T119 x13 x15).f7) 15))), Go.bits .and .u8 (Go.bits .andNot .u8 (Go.bits .or .u8 x128003 ((rd_T119 x13 x15).f5)) ((rd_T119 x13 x15).f6)) 15))) else (some (x128000, x128001, wrap64 (x128002 + (mx 0 (mn ((rd_T119 x13 x15).f7) 15))), Go.bits .and .u8 (Go.bits .andNot .u8 (Go.bits .or .u8 x128003 ((rd_T119 x13 x15).f5)) ((rd_T119 x13 x15).f6)) 15)))) else (clause_Do.l0 k x13 x14 (wrap64 (x15 + 1)) x127000 x127001 x128000 x128001 x128002 x128003))) else (none)) else (none)) else (some (x128000, x128001, x128002, x128003))
def clause_Do.f (k : Nat) (l0 : List (S119)) (a1_0 : Int) (a1_1 : Int) (a2_0 : Bool) (a2_1 : Int) (a2_2 : Int) (a2_3 : Int) : Option (Bool × Int × Int × Int) := if a2_0 = true then (clause_Do.l0 k l0 (l0.length : Int) 0 a1_0 a1_1 a2_0 a2_1 a2_2 a2_3) else (some (false, 0, 0, 0))
theorem clause_Do.mono_l : ∀ k, (∀ y0 y1 y2 y3 y4 y5 y6 y7 y8, LeO (clause_Do.l0 k y0 y1 y2 y3 y4 y5 y6 y7 y8) (clause_Do.l0 (k + 1) y0 y1 y2 y3 y4 y5 y6 y7 y8))
 | 0 => fun _ _ _ _ _ _ _ _ _ r h => by simp [clause_Do.l0] at h
 | k + 1 => by
  have ih0 := clause_Do.mono_l k
  ·intro y0 y1 y2 y3 y4 y5 y6 y7 y8
   unfold clause_Do.l0
   repeat' first
   | (with_reducible exact ih0 _ _ _ _ _ _ _ _ _)
   | (with_reducible exact LeO.refl _)
   | (with_reducible exact LeO.none _)
   | (with_reducible refine LeO.ite ?_ ?_)
   | (with_reducible refine LeO.bind ?_ (fun _ => ?_))
   | exact ih0 _ _ _ _ _ _ _ _ _
   | exact LeO.none _
   | refine LeO.ite ?_ ?_
   | refine LeO.bind ?_ (fun _ => ?_)
theorem clause_Do.mono : ∀ a0 a1 a2 a3 a4 a5 a6 k, LeO (clause_Do.f k a0 a1 a2 a3 a4 a5 a6) (clause_Do.f (k + 1) a0 a1 a2 a3 a4 a5 a6) := by
 intro a0 a1 a2 a3 a4 a5 a6 k
 have ih0 := clause_Do.mono_l k
 unfold clause_Do.f
 repeat' first
   | (with_reducible exact ih0 _ _ _ _ _ _ _ _ _)
   | (with_reducible exact LeO.refl _)
   | (with_reducible exact LeO.none _)
   | (with_reducible refine LeO.ite ?_ ?_)
   | (with_reducible refine LeO.bind ?_ (fun _ => ?_))
   | exact ih0 _ _ _ _ _ _ _ _ _
   | exact LeO.none _
   | refine LeO.ite ?_ ?_
   | refine LeO.bind ?_ (fun _ => ?_)
set_option maxHeartbeats 8000000 in
set_option maxRecDepth 100000 in
theorem clause_Do.calls (k : Nat) (A0 : Option Addr) (c0 : Nat) (l0 : List (S119)) (a1_0 : Int) (a1_1 : Int) (a2_0 : Bool) (a2_1 : Int) (a2_2 : Int) (a2_3 : Int) (r1 : Bool) (r2 : Int) (r3 : Int) (r4 : Int) (w : World) (hr0 : Kd.C k119 w A0 l0.length l0) (hc0 : l0.length ≤ c0) (h : clause_Do.f k l0 a1_0 a1_1 a2_0 a2_1 a2_2 a2_3 = some (r1, r2, r3, r4)) :
  Calls Try.prog 49 #[.slice A0 l0.length c0, .agg #[.int .u32 a1_0, .int .i64 a1_1], .agg #[.bool a2_0, .int .i64 a2_1, .int .i64 a2_2, .int .u8 a2_3]] w fun e w' => e = .returned (.agg #[.bool r1, .int .i64 r2, .int .i64 r3, .int .u8 r4]) ∧ Below w.heap.size w w' := by
 have hu35 := Try.underlying35
 have hu41 := Try.underlying41
 have hu119 := Try.underlying119
 have HR0 := Aside0.mk hr0
 have HC0 := Aside0.mk hc0
 clear hr0 hc0
 have HB := Aside0.mk (Below.refl w.heap.size w)
 have H : (if a2_0 = true then (clause_Do.l0 k l0 (l0.length : Int) 0 a1_0 a1_1 a2_0 a2_1 a2_2 a2_3) else (some (false, 0, 0, 0))) = some (r1, r2, r3, r4) := h
 clear h
 by_cases c4 : a2_0 = true
 ·subst c4
  have H1 : (clause_Do.l0 k l0 (l0.length : Int) 0 a1_0 a1_1 true a2_1 a2_2 a2_3) = some (r1, r2, r3, r4) := by rw [if_pos rfl] at H; exact H
  clear H
  have H := H1
  clear H1
  have H' := Aside0.mk H
  clear H
  go_enter Try.func49, Try.ntmps49
  go_wp2_with (first | ((with_reducible refine gate_dst (N := 4) rfl ?_); refine bx 4 (cs := #[.int .u32 a1_0, .int .i64 a1_1]) (t := 35) (h := ?_); intro gb126 hg w5 hbox hb; have BK126 := Aside0.mk hbox; have GW126 : Aside0 (w.heap.size ≤ gb126) := bge hg; have GE126 : Aside0 (w.heap.size ≤ gb126) := bge hg; replace HB := bst hb; clear hb hbox hg) | ((with_reducible refine gate_dst (N := 5) rfl ?_); refine bx 5 (cs := #[.bool true, .int .i64 a2_1, .int .i64 a2_2, .int .u8 a2_3]) (t := 41) (h := ?_); intro gb127 hg w6 hbox hb; have BK127 := Aside0.mk hbox; have GW127 : Aside0 (w.heap.size ≤ gb127) := bge hg; have GE127 : Aside0 (w.heap.size ≤ gb127) := bge hg; have NB126_127 := bne BK126 hg; have NB127_126 := bnf BK126 hg; replace BK126 := bkb BK126 hb; replace HB := bst hb; clear hb hbox hg) | ((with_reducible refine gate_dst (N := 6) rfl ?_); refine bx 6 (cs := #[.bool false, .int .i64 0, .int .i64 0, .int .u8 0]) (t := 41) (h := ?_); intro gb128 hg w7 hbox hb; have BK128 := Aside0.mk hbox; have GW128 : Aside0 (w.heap.size ≤ gb128) := bge hg; have GE128 : Aside0 (w.heap.size ≤ gb128) := bge hg; have NB126_128 := bne BK126 hg; have NB128_126 := bnf BK126 hg; have NB127_128 := bne BK127 hg; have NB128_127 := bnf BK127 hg; replace BK126 := bkb BK126 hb; replace BK127 := bkb BK127 hb; replace HB := bst hb; clear hb hbox hg; have hnb8 := NB127_126.out; have hnc8 := NB126_127.out; have hnb9 := NB127_128.out; have hnc9 := NB128_127.out; obtain ⟨hcz10_0, hcz10_1, hcz10_2, hcz10_3, hfz10_0, hfz10_1, hfz10_2, hfz10_3⟩ := bc4 BK127))
  go_loopg [15] k (fun kq v15 w' => ∃ (x15_1 : Int) (x128001_1 : Int) (x128002_1 : Int) (x128003_1 : Int) (x129000_1 : Bool) (x129001_1 : Int) (x129002_1 : Int) (x129003_1 : Int), v15 = .int .i64 x15_1 ∧ Aside0 (clause_Do.l0 kq l0 (l0.length : Int) x15_1 a1_0 a1_1 true x128001_1 x128002_1 x128003_1 = some (r1, r2, r3, r4)) ∧ Aside0 (kq ≤ k) ∧ Aside0 (w'.heap[gb126]? = some (.cells #[.int .u32 a1_0, .int .i64 a1_1] 35 (0, 0))) ∧ Aside0 (w'.heap[gb127]? = some (.cells #[.bool true, .int .i64 x128001_1, .int .i64 x128002_1, .int .u8 x128003_1] 41 (0, 0))) ∧ Aside0 (w'.heap[gb128]? = some (.cells #[.bool x129000_1, .int .i64 x129001_1, .int .i64 x129002_1, .int .u8 x129003_1] 41 (0, 0))) ∧ Aside0 (Below w.heap.size w w'))
  case atStart => exact ⟨(0), (a2_1), (a2_2), (a2_3), (false), (0), (0), (0), (by first | rfl | (simp; done) | (simp [*]; done)), H', ⟨Nat.le_refl _⟩, ⟨bkq BK126⟩, ⟨bkq BK127⟩, ⟨bkq BK128⟩, ⟨by repeat (first | (with_reducible first | exact HB.out | apply below_alloc | apply pw_below_drewN | apply below_drew1 | refine below_set ?_ GE126.out | refine below_set ?_ GE127.out | refine below_set ?_ GE128.out) | exact HB.out)⟩⟩
  case round =>
   clear H'
   try clear p2
   try clear c4
   try clear c8
   try clear c9
   try clear hcz10_0 hcz10_1 hcz10_2 hcz10_3 hfz10_0 hfz10_1 hfz10_2 hfz10_3
   obtain ⟨x15_1, x128001_1, x128002_1, x128003_1, x129000_1, x129001_1, x129002_1, x129003_1, rfl, HA, HK1, BK126, BK127, BK128, HB⟩ := hrel
   cases gk with
   | zero => exact absurd HA.out (by simp [clause_Do.l0])
   | succ k1 =>
    have H := HA.out
    clear HA
    simp only [clause_Do.l0] at H
    by_cases c11 : x15_1 < (l0.length : Int)
    ·rw [if_pos c11] at H
     have c11b0 : decide (x15_1 < (l0.length : Int)) = true := decide_eq_true c11
     clear c11
     by_cases c12 : 0 ≤ x15_1
     ·rw [if_pos c12] at H
      have c12b0 : decide (0 ≤ x15_1) = true := decide_eq_true c12
      clear c12
      by_cases c13 : x15_1 < (l0.length : Int)
      ·rw [if_pos c13] at H
       have c13b0 : decide (x15_1 < (l0.length : Int)) = true := decide_eq_true c13
       clear c13
       replace H := Option.bind_eq_some_iff.mp H
       obtain ⟨t131, A140, H⟩ := H
       replace H : (if t131 = true then (if (rd_T119 l0 x15_1).f4 = true then (some (false, 0, 0, 0)) else (if ((rd_T119 l0 x15_1).f8) > 0 then (if ((rd_T119 l0 x15_1).f8) ≤ 255 then (some (true, (rd_T119 l0 x15_1).f8, wrap64 (x128002_1 + (mx 0 (mn ((rd_T119 l0 x15_1).f7) 15))), Go.bits .and .u8 (Go.bits .andNot .u8 (Go.bits .or .u8 x128003_1 ((rd_T119 l0 x15_1).f5)) ((rd_T119 l0 x15_1).f6)) 15)) else (some (true, x128001_1, wrap64 (x128002_1 + (mx 0 (mn ((rd_T119 l0 x15_1).f7) 15))), Go.bits .and .u8 (Go.bits .andNot .u8 (Go.bits .or .u8 x128003_1 ((rd_T119 l0 x15_1).f5)) ((rd_T119 l0 x15_1).f6)) 15))) else (some (true, x128001_1, wrap64 (x128002_1 + (mx 0 (mn ((rd_T119 l0 x15_1).f7) 15))), Go.bits .and .u8 (Go.bits .andNot .u8 (Go.bits .or .u8 x128003_1 ((rd_T119 l0 x15_1).f5)) ((rd_T119 l0 x15_1).f6)) 15)))) else (clause_Do.l0 k1 l0 (l0.length : Int) (wrap64 (x15_1 + 1)) a1_0 a1_1 true x128001_1 x128002_1 x128003_1)) = some (r1, r2, r3, r4) := H
       have A14 := Aside0.mk A140
       clear A140
       by_cases c15 : t131 = true
       ·subst c15
        have H1 : (if (rd_T119 l0 x15_1).f4 = true then (some (false, 0, 0, 0)) else (if ((rd_T119 l0 x15_1).f8) > 0 then (if ((rd_T119 l0 x15_1).f8) ≤ 255 then (some (true, (rd_T119 l0 x15_1).f8, wrap64 (x128002_1 + (mx 0 (mn ((rd_T119 l0 x15_1).f7) 15))), Go.bits .and .u8 (Go.bits .andNot .u8 (Go.bits .or .u8 x128003_1 ((rd_T119 l0 x15_1).f5)) ((rd_T119 l0 x15_1).f6)) 15)) else (some (true, x128001_1, wrap64 (x128002_1 + (mx 0 (mn ((rd_T119 l0 x15_1).f7) 15))), Go.bits .and .u8 (Go.bits .andNot .u8 (Go.bits .or .u8 x128003_1 ((rd_T119 l0 x15_1).f5)) ((rd_T119 l0 x15_1).f6)) 15))) else (some (true, x128001_1, wrap64 (x128002_1 + (mx 0 (mn ((rd_T119 l0 x15_1).f7) 15))), Go.bits .and .u8 (Go.bits .andNot .u8 (Go.bits .or .u8 x128003_1 ((rd_T119 l0 x15_1).f5)) ((rd_T119 l0 x15_1).f6)) 15)))) = some (r1, r2, r3, r4) := by rw [if_pos rfl] at H; exact H
        clear H
        have H := H1
        clear H1
        obtain ⟨bq16, hbq16⟩ : ∃ b_ : Bool, b_ = ((rd_T119 l0 x15_1).f4) := ⟨_, rfl⟩
        replace H : (if bq16 = true then (some (false, 0, 0, 0)) else (if ((rd_T119 l0 x15_1).f8) > 0 then (if ((rd_T119 l0 x15_1).f8) ≤ 255 then (some (true, (rd_T119 l0 x15_1).f8, wrap64 (x128002_1 + (mx 0 (mn ((rd_T119 l0 x15_1).f7) 15))), Go.bits .and .u8 (Go.bits .andNot .u8 (Go.bits .or .u8 x128003_1 ((rd_T119 l0 x15_1).f5)) ((rd_T119 l0 x15_1).f6)) 15)) else (some (true, x128001_1, wrap64 (x128002_1 + (mx 0 (mn ((rd_T119 l0 x15_1).f7) 15))), Go.bits .and .u8 (Go.bits .andNot .u8 (Go.bits .or .u8 x128003_1 ((rd_T119 l0 x15_1).f5)) ((rd_T119 l0 x15_1).f6)) 15))) else (some (true, x128001_1, wrap64 (x128002_1 + (mx 0 (mn ((rd_T119 l0 x15_1).f7) 15))), Go.bits .and .u8 (Go.bits .andNot .u8 (Go.bits .or .u8 x128003_1 ((rd_T119 l0 x15_1).f5)) ((rd_T119 l0 x15_1).f6)) 15)))) = some (r1, r2, r3, r4) := by rw [← hbq16] at H; exact H
        have Nbq16 := Aside0.mk hbq16
        clear hbq16
        by_cases c17 : bq16 = true
        ·subst c17
         (try rw [← Nbq16.out] at A14)
         have H1 : (some (false, 0, 0, 0)) = some (r1, r2, r3, r4) := by rw [if_pos rfl] at H; exact H
         clear H
         have H := H1
         clear H1
         simp only [Option.some.injEq, Prod.mk.injEq] at H
         obtain ⟨rfl, rfl, rfl, rfl⟩ := H
         have p129 : 0 ≤ (x15_1 : Int) := of_decide_eq_true (by first | (with_reducible assumption) | assumption)
         have q129 : x15_1 < (l0.length : Int) := of_decide_eq_true (by first | (with_reducible assumption) | assumption)
         obtain ⟨ad129, e129, hx129_0, hx129_1, hx129_2, hx129_3, hx129_4, hx129_5, hx129_6, hx129_7, hx129_8, hx129_9⟩ := at_T119 HR0.out x15_1 p129 q129
         (try rw [← Nbq16.out] at hx129_0)
         (try rw [← Nbq16.out] at hx129_5)
         cases e129
         replace hx129_0 := (HB.out.cell (World.block_lt_of_cell? w _ hx129_0)).trans hx129_0
         replace hx129_1 := (HB.out.cell (World.block_lt_of_cell? w _ hx129_1)).trans hx129_1
         replace hx129_2 := (HB.out.cell (World.block_lt_of_cell? w _ hx129_2)).trans hx129_2
         replace hx129_3 := (HB.out.cell (World.block_lt_of_cell? w _ hx129_3)).trans hx129_3
         replace hx129_4 := (HB.out.cell (World.block_lt_of_cell? w _ hx129_4)).trans hx129_4
         replace hx129_5 := (HB.out.cell (World.block_lt_of_cell? w _ hx129_5)).trans hx129_5
         replace hx129_6 := (HB.out.cell (World.block_lt_of_cell? w _ hx129_6)).trans hx129_6
         replace hx129_7 := (HB.out.cell (World.block_lt_of_cell? w _ hx129_7)).trans hx129_7
         replace hx129_8 := (HB.out.cell (World.block_lt_of_cell? w _ hx129_8)).trans hx129_8
         replace hx129_9 := (HB.out.cell (World.block_lt_of_cell? w _ hx129_9)).trans hx129_9
         replace p129 := eq_true p129
         replace q129 := eq_true q129
         go_wp2_with (first | ((with_reducible refine gate_dst (N := 8) rfl ?_); refine bx 8 (cs := #[.bool false, .int .u32 0, .int .i64 0, .int .u8 0, .int .u8 0, .bool false, .int .u8 0, .int .u8 0, .int .i64 0, .int .i64 0]) (t := 119) (h := ?_); intro gb130 hg w18 hbox hb; have BK130 := Aside0.mk hbox; have GW130 : Aside0 (w.heap.size ≤ gb130) := bge hg; have GE130 : Aside0 (w.heap.size ≤ gb130) := bge hg; have NB126_130 := bne BK126 hg; have NB130_126 := bnf BK126 hg; have NB127_130 := bne BK127 hg; have NB130_127 := bnf BK127 hg; have NB128_130 := bne BK128 hg; have NB130_128 := bnf BK128 hg; replace BK126 := bkb BK126 hb; replace BK127 := bkb BK127 hb; replace BK128 := bkb BK128 hb; replace HB := bst hb; clear hb hbox hg; have hnb19 := NB130_126.out; have hnc19 := NB126_130.out; have hnb20 := NB130_127.out; have hnc20 := NB127_130.out; have hnb21 := NB130_128.out; have hnc21 := NB128_130.out; obtain ⟨hcz22_0, hcz22_1, hcz22_2, hcz22_3, hcz22_4, hcz22_5, hcz22_6, hcz22_7, hcz22_8, hcz22_9, hfz22_0, hfz22_1, hfz22_2, hfz22_3, hfz22_4, hfz22_5, hfz22_6, hfz22_7, hfz22_8, hfz22_9⟩ := bc10 BK130; have hnb23 := NB126_127.out; have hnc23 := NB127_126.out; have hnb24 := NB126_128.out; have hnc24 := NB128_126.out; obtain ⟨hcz25_0, hcz25_1, hfz25_0, hfz25_1⟩ := bc2 BK126; have hnb26 := NB127_128.out; have hnc26 := NB128_127.out; obtain ⟨hcz27_0, hcz27_1, hcz27_2, hcz27_3, hfz27_0, hfz27_1, hfz27_2, hfz27_3⟩ := bc4 BK127) | ((with_reducible refine gate_dst (N := 23) rfl ?_); refine gl (some 23) Try.func66 #[.agg #[.bool ((rd_T119 l0 x15_1).f0), .int .u32 ((rd_T119 l0 x15_1).f1.f0), .int .i64 ((rd_T119 l0 x15_1).f1.f1), .int .u8 ((rd_T119 l0 x15_1).f2), .int .u8 ((rd_T119 l0 x15_1).f3), .bool true, .int .u8 ((rd_T119 l0 x15_1).f5), .int .u8 ((rd_T119 l0 x15_1).f6), .int .i64 ((rd_T119 l0 x15_1).f7), .int .i64 ((rd_T119 l0 x15_1).f8)], .agg #[.int .u32 a1_0, .int .i64 a1_1], .int .u8 x128003_1] ?_; (with_reducible refine (clause_Matches.calls ((rd_T119 l0 x15_1).f0) ((rd_T119 l0 x15_1).f1.f0) ((rd_T119 l0 x15_1).f1.f1) ((rd_T119 l0 x15_1).f2) ((rd_T119 l0 x15_1).f3) true ((rd_T119 l0 x15_1).f5) ((rd_T119 l0 x15_1).f6) ((rd_T119 l0 x15_1).f7) ((rd_T119 l0 x15_1).f8) a1_0 a1_1 x128003_1 true _ A14.out).mono ?_); rintro e w28 ⟨rfl, hb⟩; refine ⟨_, rfl, ?_⟩; replace BK126 := bkb BK126 hb; replace BK127 := bkb BK127 hb; replace BK128 := bkb BK128 hb; replace BK130 := Aside0.mk (blk_below (g := gb130) (o := .cells #[.bool ((rd_T119 l0 x15_1).f0), .int .u32 ((rd_T119 l0 x15_1).f1.f0), .int .i64 ((rd_T119 l0 x15_1).f1.f1), .int .u8 ((rd_T119 l0 x15_1).f2), .int .u8 ((rd_T119 l0 x15_1).f3), .bool true, .int .u8 ((rd_T119 l0 x15_1).f5), .int .u8 ((rd_T119 l0 x15_1).f6), .int .i64 ((rd_T119 l0 x15_1).f7), .int .i64 ((rd_T119 l0 x15_1).f8)] 119 (0, 0)) (bkp BK130) hb); replace HB := bst hb; (try clear hb); (try clear hb2); (try clear hk); (try clear hi); obtain ⟨hcz29_0, hcz29_1, hcz29_2, hcz29_3, hcz29_4, hcz29_5, hcz29_6, hcz29_7, hcz29_8, hcz29_9, hfz29_0, hfz29_1, hfz29_2, hfz29_3, hfz29_4, hfz29_5, hfz29_6, hfz29_7, hfz29_8, hfz29_9⟩ := bc10 BK130; obtain ⟨hcz30_0, hcz30_1, hcz30_2, hcz30_3, hfz30_0, hfz30_1, hfz30_2, hfz30_3⟩ := bc4 BK128))
         refine bodyPost_ret (results_cell_row rfl _ _ gb128 41 #[.bool false, .int .i64 0, .int .i64 0, .int .u8 0] (0, 0) _ rfl (bkp BK128) Try.underlying41 rfl (by kernel_rfl)) rfl ?_
         exact ⟨by first | rfl | (simp [errW_none, errW_some] <;> rfl) | (simp [*, errW_none, errW_some] <;> rfl), by repeat (first | (with_reducible first | exact HB.out | apply below_alloc | apply pw_below_drewN | apply below_drew1 | refine below_set ?_ GE126.out | refine below_set ?_ GE127.out | refine below_set ?_ GE128.out | refine below_set ?_ GE130.out) | exact HB.out)⟩
        ·replace c17 := Bool.eq_false_iff.mpr c17
         subst c17
         (try rw [← Nbq16.out] at A14)
         have H1 : (if ((rd_T119 l0 x15_1).f8) > 0 then (if ((rd_T119 l0 x15_1).f8) ≤ 255 then (some (true, (rd_T119 l0 x15_1).f8, wrap64 (x128002_1 + (mx 0 (mn ((rd_T119 l0 x15_1).f7) 15))), Go.bits .and .u8 (Go.bits .andNot .u8 (Go.bits .or .u8 x128003_1 ((rd_T119 l0 x15_1).f5)) ((rd_T119 l0 x15_1).f6)) 15)) else (some (true, x128001_1, wrap64 (x128002_1 + (mx 0 (mn ((rd_T119 l0 x15_1).f7) 15))), Go.bits .and .u8 (Go.bits .andNot .u8 (Go.bits .or .u8 x128003_1 ((rd_T119 l0 x15_1).f5)) ((rd_T119 l0 x15_1).f6)) 15))) else (some (true, x128001_1, wrap64 (x128002_1 + (mx 0 (mn ((rd_T119 l0 x15_1).f7) 15))), Go.bits .and .u8 (Go.bits .andNot .u8 (Go.bits .or .u8 x128003_1 ((rd_T119 l0 x15_1).f5)) ((rd_T119 l0 x15_1).f6)) 15))) = some (r1, r2, r3, r4) := by rw [if_neg (show ¬ (false = true) by decide)] at H; exact H
         clear H
         have H := H1
         clear H1
         obtain ⟨ji31, hji31⟩ : ∃ j_ : Int, (mn ((rd_T119 l0 x15_1).f7) 15) = j_ := ⟨_, rfl⟩
         replace H : (if ((rd_T119 l0 x15_1).f8) > 0 then (if ((rd_T119 l0 x15_1).f8) ≤ 255 then (some (true, (rd_T119 l0 x15_1).f8, wrap64 (x128002_1 + (mx 0 (ji31))), Go.bits .and .u8 (Go.bits .andNot .u8 (Go.bits .or .u8 x128003_1 ((rd_T119 l0 x15_1).f5)) ((rd_T119 l0 x15_1).f6)) 15)) else (some (true, x128001_1, wrap64 (x128002_1 + (mx 0 (ji31))), Go.bits .and .u8 (Go.bits .andNot .u8 (Go.bits .or .u8 x128003_1 ((rd_T119 l0 x15_1).f5)) ((rd_T119 l0 x15_1).f6)) 15))) else (some (true, x128001_1, wrap64 (x128002_1 + (mx 0 (ji31))), Go.bits .and .u8 (Go.bits .andNot .u8 (Go.bits .or .u8 x128003_1 ((rd_T119 l0 x15_1).f5)) ((rd_T119 l0 x15_1).f6)) 15))) = some (r1, r2, r3, r4) := by first | (rw [hji31] at H; exact H) | (simp only [hji31] at H ⊢; exact H)
         (try rw [hji31] at A14)
         have hji31_ : (if 15 < ((rd_T119 l0 x15_1).f7) then 15 else ((rd_T119 l0 x15_1).f7)) = ji31 := hji31
         obtain ⟨ji32, hji32⟩ : ∃ j_ : Int, (mx 0 (ji31)) = j_ := ⟨_, rfl⟩
         replace H : (if ((rd_T119 l0 x15_1).f8) > 0 then (if ((rd_T119 l0 x15_1).f8) ≤ 255 then (some (true, (rd_T119 l0 x15_1).f8, wrap64 (x128002_1 + (ji32)), Go.bits .and .u8 (Go.bits .andNot .u8 (Go.bits .or .u8 x128003_1 ((rd_T119 l0 x15_1).f5)) ((rd_T119 l0 x15_1).f6)) 15)) else (some (true, x128001_1, wrap64 (x128002_1 + (ji32)), Go.bits .and .u8 (Go.bits .andNot .u8 (Go.bits .or .u8 x128003_1 ((rd_T119 l0 x15_1).f5)) ((rd_T119 l0 x15_1).f6)) 15))) else (some (true, x128001_1, wrap64 (x128002_1 + (ji32)), Go.bits .and .u8 (Go.bits .andNot .u8 (Go.bits .or .u8 x128003_1 ((rd_T119 l0 x15_1).f5)) ((rd_T119 l0 x15_1).f6)) 15))) = some (r1, r2, r3, r4) := by first | (rw [hji32] at H; exact H) | (simp only [hji32] at H ⊢; exact H)
         (try rw [hji32] at A14)
         have hji32_ : (if 0 < (ji31) then (ji31) else 0) = ji32 := hji32
         by_cases c33 : ((rd_T119 l0 x15_1).f8) > 0
         ·rw [if_pos c33] at H
          have c33b0 : decide (0 < ((rd_T119 l0 x15_1).f8)) = true := decide_eq_true c33
          clear c33
          by_cases c34 : ((rd_T119 l0 x15_1).f8) ≤ 255
          ·rw [if_pos c34] at H
           have c34b0 : decide (((rd_T119 l0 x15_1).f8) ≤ 255) = true := decide_eq_true c34
           clear c34
           simp only [Option.some.injEq, Prod.mk.injEq] at H
           obtain ⟨rfl, rfl, rfl, rfl⟩ := H
           have p129 : 0 ≤ (x15_1 : Int) := of_decide_eq_true (by first | (with_reducible assumption) | assumption)
           have q129 : x15_1 < (l0.length : Int) := of_decide_eq_true (by first | (with_reducible assumption) | assumption)
           obtain ⟨ad129, e129, hx129_0, hx129_1, hx129_2, hx129_3, hx129_4, hx129_5, hx129_6, hx129_7, hx129_8, hx129_9⟩ := at_T119 HR0.out x15_1 p129 q129
           (try rw [← Nbq16.out] at hx129_0)
           (try rw [← Nbq16.out] at hx129_5)
           cases e129
           replace hx129_0 := (HB.out.cell (World.block_lt_of_cell? w _ hx129_0)).trans hx129_0
           replace hx129_1 := (HB.out.cell (World.block_lt_of_cell? w _ hx129_1)).trans hx129_1
           replace hx129_2 := (HB.out.cell (World.block_lt_of_cell? w _ hx129_2)).trans hx129_2
           replace hx129_3 := (HB.out.cell (World.block_lt_of_cell? w _ hx129_3)).trans hx129_3
           replace hx129_4 := (HB.out.cell (World.block_lt_of_cell? w _ hx129_4)).trans hx129_4
           replace hx129_5 := (HB.out.cell (World.block_lt_of_cell? w _ hx129_5)).trans hx129_5
           replace hx129_6 := (HB.out.cell (World.block_lt_of_cell? w _ hx129_6)).trans hx129_6
           replace hx129_7 := (HB.out.cell (World.block_lt_of_cell? w _ hx129_7)).trans hx129_7
           replace hx129_8 := (HB.out.cell (World.block_lt_of_cell? w _ hx129_8)).trans hx129_8
           replace hx129_9 := (HB.out.cell (World.block_lt_of_cell? w _ hx129_9)).trans hx129_9
           replace p129 := eq_true p129
           replace q129 := eq_true q129
           go_wp2_with (first | ((with_reducible refine gate_dst (N := 8) rfl ?_); refine bx 8 (cs := #[.bool false, .int .u32 0, .int .i64 0, .int .u8 0, .int .u8 0, .bool false, .int .u8 0, .int .u8 0, .int .i64 0, .int .i64 0]) (t := 119) (h := ?_); intro gb130 hg w35 hbox hb; have BK130 := Aside0.mk hbox; have GW130 : Aside0 (w.heap.size ≤ gb130) := bge hg; have GE130 : Aside0 (w.heap.size ≤ gb130) := bge hg; have NB126_130 := bne BK126 hg; have NB130_126 := bnf BK126 hg; have NB127_130 := bne BK127 hg; have NB130_127 := bnf BK127 hg; have NB128_130 := bne BK128 hg; have NB130_128 := bnf BK128 hg; replace BK126 := bkb BK126 hb; replace BK127 := bkb BK127 hb; replace BK128 := bkb BK128 hb; replace HB := bst hb; clear hb hbox hg; have hnb36 := NB130_126.out; have hnc36 := NB126_130.out; have hnb37 := NB130_127.out; have hnc37 := NB127_130.out; have hnb38 := NB130_128.out; have hnc38 := NB128_130.out; obtain ⟨hcz39_0, hcz39_1, hcz39_2, hcz39_3, hcz39_4, hcz39_5, hcz39_6, hcz39_7, hcz39_8, hcz39_9, hfz39_0, hfz39_1, hfz39_2, hfz39_3, hfz39_4, hfz39_5, hfz39_6, hfz39_7, hfz39_8, hfz39_9⟩ := bc10 BK130; have hnb40 := NB126_127.out; have hnc40 := NB127_126.out; have hnb41 := NB126_128.out; have hnc41 := NB128_126.out; obtain ⟨hcz42_0, hcz42_1, hfz42_0, hfz42_1⟩ := bc2 BK126; have hnb43 := NB127_128.out; have hnc43 := NB128_127.out; obtain ⟨hcz44_0, hcz44_1, hcz44_2, hcz44_3, hfz44_0, hfz44_1, hfz44_2, hfz44_3⟩ := bc4 BK127) | ((with_reducible refine gate_dst (N := 23) rfl ?_); refine gl (some 23) Try.func66 #[.agg #[.bool ((rd_T119 l0 x15_1).f0), .int .u32 ((rd_T119 l0 x15_1).f1.f0), .int .i64 ((rd_T119 l0 x15_1).f1.f1), .int .u8 ((rd_T119 l0 x15_1).f2), .int .u8 ((rd_T119 l0 x15_1).f3), .bool false, .int .u8 ((rd_T119 l0 x15_1).f5), .int .u8 ((rd_T119 l0 x15_1).f6), .int .i64 ((rd_T119 l0 x15_1).f7), .int .i64 ((rd_T119 l0 x15_1).f8)], .agg #[.int .u32 a1_0, .int .i64 a1_1], .int .u8 x128003_1] ?_; (with_reducible refine (clause_Matches.calls ((rd_T119 l0 x15_1).f0) ((rd_T119 l0 x15_1).f1.f0) ((rd_T119 l0 x15_1).f1.f1) ((rd_T119 l0 x15_1).f2) ((rd_T119 l0 x15_1).f3) false ((rd_T119 l0 x15_1).f5) ((rd_T119 l0 x15_1).f6) ((rd_T119 l0 x15_1).f7) ((rd_T119 l0 x15_1).f8) a1_0 a1_1 x128003_1 true _ A14.out).mono ?_); rintro e w45 ⟨rfl, hb⟩; refine ⟨_, rfl, ?_⟩; replace BK126 := bkb BK126 hb; replace BK127 := bkb BK127 hb; replace BK128 := bkb BK128 hb; replace BK130 := Aside0.mk (blk_below (g := gb130) (o := .cells #[.bool ((rd_T119 l0 x15_1).f0), .int .u32 ((rd_T119 l0 x15_1).f1.f0), .int .i64 ((rd_T119 l0 x15_1).f1.f1), .int .u8 ((rd_T119 l0 x15_1).f2), .int .u8 ((rd_T119 l0 x15_1).f3), .bool false, .int .u8 ((rd_T119 l0 x15_1).f5), .int .u8 ((rd_T119 l0 x15_1).f6), .int .i64 ((rd_T119 l0 x15_1).f7), .int .i64 ((rd_T119 l0 x15_1).f8)] 119 (0, 0)) (bkp BK130) hb); replace HB := bst hb; (try clear hb); (try clear hb2); (try clear hk); (try clear hi); obtain ⟨hcz46_0, hcz46_1, hcz46_2, hcz46_3, hcz46_4, hcz46_5, hcz46_6, hcz46_7, hcz46_8, hcz46_9, hfz46_0, hfz46_1, hfz46_2, hfz46_3, hfz46_4, hfz46_5, hfz46_6, hfz46_7, hfz46_8, hfz46_9⟩ := bc10 BK130; obtain ⟨hcz47_0, hcz47_1, hcz47_2, hcz47_3, hfz47_0, hfz47_1, hfz47_2, hfz47_3⟩ := bc4 BK127; obtain ⟨hcz48_0, hcz48_1, hcz48_2, hcz48_3, hfz48_0, hfz48_1, hfz48_2, hfz48_3⟩ := bc4 BK128))
           refine bodyPost_ret (results_cell_row rfl _ _ gb128 41 #[.bool true, .int .i64 ((rd_T119 l0 x15_1).f8), .int .i64 (wrap64 (x128002_1 + (ji32))), .int .u8 (Go.bits .and .u8 (Go.bits .andNot .u8 (Go.bits .or .u8 x128003_1 ((rd_T119 l0 x15_1).f5)) ((rd_T119 l0 x15_1).f6)) 15)] (0, 0) _ rfl (bkp BK128) Try.underlying41 rfl (by kernel_rfl)) rfl ?_
           exact ⟨by first | rfl | (simp [errW_none, errW_some] <;> rfl) | (simp only [← hji31, ← hji32]; first | rfl | (simp [errW_none, errW_some] <;> rfl)) | (simp [*, errW_none, errW_some] <;> rfl), by repeat (first | (with_reducible first | exact HB.out | apply below_alloc | apply pw_below_drewN | apply below_drew1 | refine below_set ?_ GE126.out | refine below_set ?_ GE127.out | refine below_set ?_ GE128.out | refine below_set ?_ GE130.out) | exact HB.out)⟩
          ·rw [if_neg c34] at H
           have c34b0 : decide (((rd_T119 l0 x15_1).f8) ≤ 255) = false := decide_eq_false c34
           clear c34
           simp only [Option.some.injEq, Prod.mk.injEq] at H
           obtain ⟨rfl, rfl, rfl, rfl⟩ := H
           have p129 : 0 ≤ (x15_1 : Int) := of_decide_eq_true (by first | (with_reducible assumption) | assumption)
           have q129 : x15_1 < (l0.length : Int) := of_decide_eq_true (by first | (with_reducible assumption) | assumption)
           obtain ⟨ad129, e129, hx129_0, hx129_1, hx129_2, hx129_3, hx129_4, hx129_5, hx129_6, hx129_7, hx129_8, hx129_9⟩ := at_T119 HR0.out x15_1 p129 q129
           (try rw [← Nbq16.out] at hx129_0)
           (try rw [← Nbq16.out] at hx129_5)
           cases e129
           replace hx129_0 := (HB.out.cell (World.block_lt_of_cell? w _ hx129_0)).trans hx129_0
           replace hx129_1 := (HB.out.cell (World.block_lt_of_cell? w _ hx129_1)).trans hx129_1
           replace hx129_2 := (HB.out.cell (World.block_lt_of_cell? w _ hx129_2)).trans hx129_2
           replace hx129_3 := (HB.out.cell (World.block_lt_of_cell? w _ hx129_3)).trans hx129_3
           replace hx129_4 := (HB.out.cell (World.block_lt_of_cell? w _ hx129_4)).trans hx129_4
           replace hx129_5 := (HB.out.cell (World.block_lt_of_cell? w _ hx129_5)).trans hx129_5
           replace hx129_6 := (HB.out.cell (World.block_lt_of_cell? w _ hx129_6)).trans hx129_6
           replace hx129_7 := (HB.out.cell (World.block_lt_of_cell? w _ hx129_7)).trans hx129_7
           replace hx129_8 := (HB.out.cell (World.block_lt_of_cell? w _ hx129_8)).trans hx129_8
           replace hx129_9 := (HB.out.cell (World.block_lt_of_cell? w _ hx129_9)).trans hx129_9
           replace p129 := eq_true p129
           replace q129 := eq_true q129
           go_wp2_with (first | ((with_reducible refine gate_dst (N := 8) rfl ?_); refine bx 8 (cs := #[.bool false, .int .u32 0, .int .i64 0, .int .u8 0, .int .u8 0, .bool false, .int .u8 0, .int .u8 0, .int .i64 0, .int .i64 0]) (t := 119) (h := ?_); intro gb130 hg w49 hbox hb; have BK130 := Aside0.mk hbox; have GW130 : Aside0 (w.heap.size ≤ gb130) := bge hg; have GE130 : Aside0 (w.heap.size ≤ gb130) := bge hg; have NB126_130 := bne BK126 hg; have NB130_126 := bnf BK126 hg; have NB127_130 := bne BK127 hg; have NB130_127 := bnf BK127 hg; have NB128_130 := bne BK128 hg; have NB130_128 := bnf BK128 hg; replace BK126 := bkb BK126 hb; replace BK127 := bkb BK127 hb; replace BK128 := bkb BK128 hb; replace HB := bst hb; clear hb hbox hg; have hnb50 := NB130_126.out; have hnc50 := NB126_130.out; have hnb51 := NB130_127.out; have hnc51 := NB127_130.out; have hnb52 := NB130_128.out; have hnc52 := NB128_130.out; obtain ⟨hcz53_0, hcz53_1, hcz53_2, hcz53_3, hcz53_4, hcz53_5, hcz53_6, hcz53_7, hcz53_8, hcz53_9, hfz53_0, hfz53_1, hfz53_2, hfz53_3, hfz53_4, hfz53_5, hfz53_6, hfz53_7, hfz53_8, hfz53_9⟩ := bc10 BK130; have hnb54 := NB126_127.out; have hnc54 := NB127_126.out; have hnb55 := NB126_128.out; have hnc55 := NB128_126.out; obtain ⟨hcz56_0, hcz56_1, hfz56_0, hfz56_1⟩ := bc2 BK126; have hnb57 := NB127_128.out; have hnc57 := NB128_127.out; obtain ⟨hcz58_0, hcz58_1, hcz58_2, hcz58_3, hfz58_0, hfz58_1, hfz58_2, hfz58_3⟩ := bc4 BK127) | ((with_reducible refine gate_dst (N := 23) rfl ?_); refine gl (some 23) Try.func66 #[.agg #[.bool ((rd_T119 l0 x15_1).f0), .int .u32 ((rd_T119 l0 x15_1).f1.f0), .int .i64 ((rd_T119 l0 x15_1).f1.f1), .int .u8 ((rd_T119 l0 x15_1).f2), .int .u8 ((rd_T119 l0 x15_1).f3), .bool false, .int .u8 ((rd_T119 l0 x15_1).f5), .int .u8 ((rd_T119 l0 x15_1).f6), .int .i64 ((rd_T119 l0 x15_1).f7), .int .i64 ((rd_T119 l0 x15_1).f8)], .agg #[.int .u32 a1_0, .int .i64 a1_1], .int .u8 x128003_1] ?_; (with_reducible refine (clause_Matches.calls ((rd_T119 l0 x15_1).f0) ((rd_T119 l0 x15_1).f1.f0) ((rd_T119 l0 x15_1).f1.f1) ((rd_T119 l0 x15_1).f2) ((rd_T119 l0 x15_1).f3) false ((rd_T119 l0 x15_1).f5) ((rd_T119 l0 x15_1).f6) ((rd_T119 l0 x15_1).f7) ((rd_T119 l0 x15_1).f8) a1_0 a1_1 x128003_1 true _ A14.out).mono ?_); rintro e w59 ⟨rfl, hb⟩; refine ⟨_, rfl, ?_⟩; replace BK126 := bkb BK126 hb; replace BK127 := bkb BK127 hb; replace BK128 := bkb BK128 hb; replace BK130 := Aside0.mk (blk_below (g := gb130) (o := .cells #[.bool ((rd_T119 l0 x15_1).f0), .int .u32 ((rd_T119 l0 x15_1).f1.f0), .int .i64 ((rd_T119 l0 x15_1).f1.f1), .int .u8 ((rd_T119 l0 x15_1).f2), .int .u8 ((rd_T119 l0 x15_1).f3), .bool false, .int .u8 ((rd_T119 l0 x15_1).f5), .int .u8 ((rd_T119 l0 x15_1).f6), .int .i64 ((rd_T119 l0 x15_1).f7), .int .i64 ((rd_T119 l0 x15_1).f8)] 119 (0, 0)) (bkp BK130) hb); replace HB := bst hb; (try clear hb); (try clear hb2); (try clear hk); (try clear hi); obtain ⟨hcz60_0, hcz60_1, hcz60_2, hcz60_3, hcz60_4, hcz60_5, hcz60_6, hcz60_7, hcz60_8, hcz60_9, hfz60_0, hfz60_1, hfz60_2, hfz60_3, hfz60_4, hfz60_5, hfz60_6, hfz60_7, hfz60_8, hfz60_9⟩ := bc10 BK130; obtain ⟨hcz61_0, hcz61_1, hcz61_2, hcz61_3, hfz61_0, hfz61_1, hfz61_2, hfz61_3⟩ := bc4 BK127; obtain ⟨hcz62_0, hcz62_1, hcz62_2, hcz62_3, hfz62_0, hfz62_1, hfz62_2, hfz62_3⟩ := bc4 BK128))
           refine bodyPost_ret (results_cell_row rfl _ _ gb128 41 #[.bool true, .int .i64 x128001_1, .int .i64 (wrap64 (x128002_1 + (ji32))), .int .u8 (Go.bits .and .u8 (Go.bits .andNot .u8 (Go.bits .or .u8 x128003_1 ((rd_T119 l0 x15_1).f5)) ((rd_T119 l0 x15_1).f6)) 15)] (0, 0) _ rfl (bkp BK128) Try.underlying41 rfl (by kernel_rfl)) rfl ?_
           exact ⟨by first | rfl | (simp [errW_none, errW_some] <;> rfl) | (simp only [← hji31, ← hji32]; first | rfl | (simp [errW_none, errW_some] <;> rfl)) | (simp [*, errW_none, errW_some] <;> rfl), by repeat (first | (with_reducible first | exact HB.out | apply below_alloc | apply pw_below_drewN | apply below_drew1 | refine below_set ?_ GE126.out | refine below_set ?_ GE127.out | refine below_set ?_ GE128.out | refine below_set ?_ GE130.out) | exact HB.out)⟩
         ·rw [if_neg c33] at H
          have c33b0 : decide (0 < ((rd_T119 l0 x15_1).f8)) = false := decide_eq_false c33
          clear c33
          simp only [Option.some.injEq, Prod.mk.injEq] at H
          obtain ⟨rfl, rfl, rfl, rfl⟩ := H
          have p129 : 0 ≤ (x15_1 : Int) := of_decide_eq_true (by first | (with_reducible assumption) | assumption)
          have q129 : x15_1 < (l0.length : Int) := of_decide_eq_true (by first | (with_reducible assumption) | assumption)
          obtain ⟨ad129, e129, hx129_0, hx129_1, hx129_2, hx129_3, hx129_4, hx129_5, hx129_6, hx129_7, hx129_8, hx129_9⟩ := at_T119 HR0.out x15_1 p129 q129
          (try rw [← Nbq16.out] at hx129_0)
          (try rw [← Nbq16.out] at hx129_5)
          cases e129
          replace hx129_0 := (HB.out.cell (World.block_lt_of_cell? w _ hx129_0)).trans hx129_0
          replace hx129_1 := (HB.out.cell (World.block_lt_of_cell? w _ hx129_1)).trans hx129_1
          replace hx129_2 := (HB.out.cell (World.block_lt_of_cell? w _ hx129_2)).trans hx129_2
          replace hx129_3 := (HB.out.cell (World.block_lt_of_cell? w _ hx129_3)).trans hx129_3
          replace hx129_4 := (HB.out.cell (World.block_lt_of_cell? w _ hx129_4)).trans hx129_4
          replace hx129_5 := (HB.out.cell (World.block_lt_of_cell? w _ hx129_5)).trans hx129_5
          replace hx129_6 := (HB.out.cell (World.block_lt_of_cell? w _ hx129_6)).trans hx129_6
          replace hx129_7 := (HB.out.cell (World.block_lt_of_cell? w _ hx129_7)).trans hx129_7
          replace hx129_8 := (HB.out.cell (World.block_lt_of_cell? w _ hx129_8)).trans hx129_8
          replace hx129_9 := (HB.out.cell (World.block_lt_of_cell? w _ hx129_9)).trans hx129_9
          replace p129 := eq_true p129
          replace q129 := eq_true q129
          go_wp2_with (first | ((with_reducible refine gate_dst (N := 8) rfl ?_); refine bx 8 (cs := #[.bool false, .int .u32 0, .int .i64 0, .int .u8 0, .int .u8 0, .bool false, .int .u8 0, .int .u8 0, .int .i64 0, .int .i64 0]) (t := 119) (h := ?_); intro gb130 hg w63 hbox hb; have BK130 := Aside0.mk hbox; have GW130 : Aside0 (w.heap.size ≤ gb130) := bge hg; have GE130 : Aside0 (w.heap.size ≤ gb130) := bge hg; have NB126_130 := bne BK126 hg; have NB130_126 := bnf BK126 hg; have NB127_130 := bne BK127 hg; have NB130_127 := bnf BK127 hg; have NB128_130 := bne BK128 hg; have NB130_128 := bnf BK128 hg; replace BK126 := bkb BK126 hb; replace BK127 := bkb BK127 hb; replace BK128 := bkb BK128 hb; replace HB := bst hb; clear hb hbox hg; have hnb64 := NB130_126.out; have hnc64 := NB126_130.out; have hnb65 := NB130_127.out; have hnc65 := NB127_130.out; have hnb66 := NB130_128.out; have hnc66 := NB128_130.out; obtain ⟨hcz67_0, hcz67_1, hcz67_2, hcz67_3, hcz67_4, hcz67_5, hcz67_6, hcz67_7, hcz67_8, hcz67_9, hfz67_0, hfz67_1, hfz67_2, hfz67_3, hfz67_4, hfz67_5, hfz67_6, hfz67_7, hfz67_8, hfz67_9⟩ := bc10 BK130; have hnb68 := NB126_127.out; have hnc68 := NB127_126.out; have hnb69 := NB126_128.out; have hnc69 := NB128_126.out; obtain ⟨hcz70_0, hcz70_1, hfz70_0, hfz70_1⟩ := bc2 BK126; have hnb71 := NB127_128.out; have hnc71 := NB128_127.out; obtain ⟨hcz72_0, hcz72_1, hcz72_2, hcz72_3, hfz72_0, hfz72_1, hfz72_2, hfz72_3⟩ := bc4 BK127) | ((with_reducible refine gate_dst (N := 23) rfl ?_); refine gl (some 23) Try.func66 #[.agg #[.bool ((rd_T119 l0 x15_1).f0), .int .u32 ((rd_T119 l0 x15_1).f1.f0), .int .i64 ((rd_T119 l0 x15_1).f1.f1), .int .u8 ((rd_T119 l0 x15_1).f2), .int .u8 ((rd_T119 l0 x15_1).f3), .bool false, .int .u8 ((rd_T119 l0 x15_1).f5), .int .u8 ((rd_T119 l0 x15_1).f6), .int .i64 ((rd_T119 l0 x15_1).f7), .int .i64 ((rd_T119 l0 x15_1).f8)], .agg #[.int .u32 a1_0, .int .i64 a1_1], .int .u8 x128003_1] ?_; (with_reducible refine (clause_Matches.calls ((rd_T119 l0 x15_1).f0) ((rd_T119 l0 x15_1).f1.f0) ((rd_T119 l0 x15_1).f1.f1) ((rd_T119 l0 x15_1).f2) ((rd_T119 l0 x15_1).f3) false ((rd_T119 l0 x15_1).f5) ((rd_T119 l0 x15_1).f6) ((rd_T119 l0 x15_1).f7) ((rd_T119 l0 x15_1).f8) a1_0 a1_1 x128003_1 true _ A14.out).mono ?_); rintro e w73 ⟨rfl, hb⟩; refine ⟨_, rfl, ?_⟩; replace BK126 := bkb BK126 hb; replace BK127 := bkb BK127 hb; replace BK128 := bkb BK128 hb; replace BK130 := Aside0.mk (blk_below (g := gb130) (o := .cells #[.bool ((rd_T119 l0 x15_1).f0), .int .u32 ((rd_T119 l0 x15_1).f1.f0), .int .i64 ((rd_T119 l0 x15_1).f1.f1), .int .u8 ((rd_T119 l0 x15_1).f2), .int .u8 ((rd_T119 l0 x15_1).f3), .bool false, .int .u8 ((rd_T119 l0 x15_1).f5), .int .u8 ((rd_T119 l0 x15_1).f6), .int .i64 ((rd_T119 l0 x15_1).f7), .int .i64 ((rd_T119 l0 x15_1).f8)] 119 (0, 0)) (bkp BK130) hb); replace HB := bst hb; (try clear hb); (try clear hb2); (try clear hk); (try clear hi); obtain ⟨hcz74_0, hcz74_1, hcz74_2, hcz74_3, hcz74_4, hcz74_5, hcz74_6, hcz74_7, hcz74_8, hcz74_9, hfz74_0, hfz74_1, hfz74_2, hfz74_3, hfz74_4, hfz74_5, hfz74_6, hfz74_7, hfz74_8, hfz74_9⟩ := bc10 BK130; obtain ⟨hcz75_0, hcz75_1, hcz75_2, hcz75_3, hfz75_0, hfz75_1, hfz75_2, hfz75_3⟩ := bc4 BK127; obtain ⟨hcz76_0, hcz76_1, hcz76_2, hcz76_3, hfz76_0, hfz76_1, hfz76_2, hfz76_3⟩ := bc4 BK128))
          refine bodyPost_ret (results_cell_row rfl _ _ gb128 41 #[.bool true, .int .i64 x128001_1, .int .i64 (wrap64 (x128002_1 + (ji32))), .int .u8 (Go.bits .and .u8 (Go.bits .andNot .u8 (Go.bits .or .u8 x128003_1 ((rd_T119 l0 x15_1).f5)) ((rd_T119 l0 x15_1).f6)) 15)] (0, 0) _ rfl (bkp BK128) Try.underlying41 rfl (by kernel_rfl)) rfl ?_
          exact ⟨by first | rfl | (simp [errW_none, errW_some] <;> rfl) | (simp only [← hji31, ← hji32]; first | rfl | (simp [errW_none, errW_some] <;> rfl)) | (simp [*, errW_none, errW_some] <;> rfl), by repeat (first | (with_reducible first | exact HB.out | apply below_alloc | apply pw_below_drewN | apply below_drew1 | refine below_set ?_ GE126.out | refine below_set ?_ GE127.out | refine below_set ?_ GE128.out | refine below_set ?_ GE130.out) | exact HB.out)⟩
       ·replace c15 := Bool.eq_false_iff.mpr c15
        subst c15
        have H1 : (clause_Do.l0 k1 l0 (l0.length : Int) (wrap64 (x15_1 + 1)) a1_0 a1_1 true x128001_1 x128002_1 x128003_1) = some (r1, r2, r3, r4) := by rw [if_neg (show ¬ (false = true) by decide)] at H; exact H
        clear H
        have H := H1
        clear H1
        have H' := Aside0.mk H
        clear H
        have p129 : 0 ≤ (x15_1 : Int) := of_decide_eq_true (by first | (with_reducible assumption) | assumption)
        have q129 : x15_1 < (l0.length : Int) := of_decide_eq_true (by first | (with_reducible assumption) | assumption)
        obtain ⟨ad129, e129, hx129_0, hx129_1, hx129_2, hx129_3, hx129_4, hx129_5, hx129_6, hx129_7, hx129_8, hx129_9⟩ := at_T119 HR0.out x15_1 p129 q129
        cases e129
        replace hx129_0 := (HB.out.cell (World.block_lt_of_cell? w _ hx129_0)).trans hx129_0
        replace hx129_1 := (HB.out.cell (World.block_lt_of_cell? w _ hx129_1)).trans hx129_1
        replace hx129_2 := (HB.out.cell (World.block_lt_of_cell? w _ hx129_2)).trans hx129_2
        replace hx129_3 := (HB.out.cell (World.block_lt_of_cell? w _ hx129_3)).trans hx129_3
        replace hx129_4 := (HB.out.cell (World.block_lt_of_cell? w _ hx129_4)).trans hx129_4
        replace hx129_5 := (HB.out.cell (World.block_lt_of_cell? w _ hx129_5)).trans hx129_5
        replace hx129_6 := (HB.out.cell (World.block_lt_of_cell? w _ hx129_6)).trans hx129_6
        replace hx129_7 := (HB.out.cell (World.block_lt_of_cell? w _ hx129_7)).trans hx129_7
        replace hx129_8 := (HB.out.cell (World.block_lt_of_cell? w _ hx129_8)).trans hx129_8
        replace hx129_9 := (HB.out.cell (World.block_lt_of_cell? w _ hx129_9)).trans hx129_9
        replace p129 := eq_true p129
        replace q129 := eq_true q129
        go_wp2_with (first | ((with_reducible refine gate_dst (N := 8) rfl ?_); refine bx 8 (cs := #[.bool false, .int .u32 0, .int .i64 0, .int .u8 0, .int .u8 0, .bool false, .int .u8 0, .int .u8 0, .int .i64 0, .int .i64 0]) (t := 119) (h := ?_); intro gb130 hg w77 hbox hb; have BK130 := Aside0.mk hbox; have GW130 : Aside0 (w.heap.size ≤ gb130) := bge hg; have GE130 : Aside0 (w.heap.size ≤ gb130) := bge hg; have NB126_130 := bne BK126 hg; have NB130_126 := bnf BK126 hg; have NB127_130 := bne BK127 hg; have NB130_127 := bnf BK127 hg; have NB128_130 := bne BK128 hg; have NB130_128 := bnf BK128 hg; replace BK126 := bkb BK126 hb; replace BK127 := bkb BK127 hb; replace BK128 := bkb BK128 hb; replace HB := bst hb; clear hb hbox hg; have hnb78 := NB130_126.out; have hnc78 := NB126_130.out; have hnb79 := NB130_127.out; have hnc79 := NB127_130.out; have hnb80 := NB130_128.out; have hnc80 := NB128_130.out; obtain ⟨hcz81_0, hcz81_1, hcz81_2, hcz81_3, hcz81_4, hcz81_5, hcz81_6, hcz81_7, hcz81_8, hcz81_9, hfz81_0, hfz81_1, hfz81_2, hfz81_3, hfz81_4, hfz81_5, hfz81_6, hfz81_7, hfz81_8, hfz81_9⟩ := bc10 BK130; have hnb82 := NB126_127.out; have hnc82 := NB127_126.out; have hnb83 := NB126_128.out; have hnc83 := NB128_126.out; obtain ⟨hcz84_0, hcz84_1, hfz84_0, hfz84_1⟩ := bc2 BK126; have hnb85 := NB127_128.out; have hnc85 := NB128_127.out; obtain ⟨hcz86_0, hcz86_1, hcz86_2, hcz86_3, hfz86_0, hfz86_1, hfz86_2, hfz86_3⟩ := bc4 BK127) | ((with_reducible refine gate_dst (N := 23) rfl ?_); refine gl (some 23) Try.func66 #[.agg #[.bool ((rd_T119 l0 x15_1).f0), .int .u32 ((rd_T119 l0 x15_1).f1.f0), .int .i64 ((rd_T119 l0 x15_1).f1.f1), .int .u8 ((rd_T119 l0 x15_1).f2), .int .u8 ((rd_T119 l0 x15_1).f3), .bool ((rd_T119 l0 x15_1).f4), .int .u8 ((rd_T119 l0 x15_1).f5), .int .u8 ((rd_T119 l0 x15_1).f6), .int .i64 ((rd_T119 l0 x15_1).f7), .int .i64 ((rd_T119 l0 x15_1).f8)], .agg #[.int .u32 a1_0, .int .i64 a1_1], .int .u8 x128003_1] ?_; (with_reducible refine (clause_Matches.calls ((rd_T119 l0 x15_1).f0) ((rd_T119 l0 x15_1).f1.f0) ((rd_T119 l0 x15_1).f1.f1) ((rd_T119 l0 x15_1).f2) ((rd_T119 l0 x15_1).f3) ((rd_T119 l0 x15_1).f4) ((rd_T119 l0 x15_1).f5) ((rd_T119 l0 x15_1).f6) ((rd_T119 l0 x15_1).f7) ((rd_T119 l0 x15_1).f8) a1_0 a1_1 x128003_1 false _ A14.out).mono ?_); rintro e w87 ⟨rfl, hb⟩; refine ⟨_, rfl, ?_⟩; replace BK126 := bkb BK126 hb; replace BK127 := bkb BK127 hb; replace BK128 := bkb BK128 hb; replace BK130 := Aside0.mk (blk_below (g := gb130) (o := .cells #[.bool ((rd_T119 l0 x15_1).f0), .int .u32 ((rd_T119 l0 x15_1).f1.f0), .int .i64 ((rd_T119 l0 x15_1).f1.f1), .int .u8 ((rd_T119 l0 x15_1).f2), .int .u8 ((rd_T119 l0 x15_1).f3), .bool ((rd_T119 l0 x15_1).f4), .int .u8 ((rd_T119 l0 x15_1).f5), .int .u8 ((rd_T119 l0 x15_1).f6), .int .i64 ((rd_T119 l0 x15_1).f7), .int .i64 ((rd_T119 l0 x15_1).f8)] 119 (0, 0)) (bkp BK130) hb); replace HB := bst hb; (try clear hb); (try clear hb2); (try clear hk); (try clear hi)))
        go_roundg k1
        case measure => have := HK1.out; omega
        case rel => exact ⟨(wrap64 (x15_1 + 1)), (x128001_1), (x128002_1), (x128003_1), (x129000_1), (x129001_1), (x129002_1), (x129003_1), (by first | rfl | (simp; done) | (simp [*]; done)), H', ⟨by have := HK1.out; omega⟩, ⟨bkq BK126⟩, ⟨bkq BK127⟩, ⟨bkq BK128⟩, ⟨by repeat (first | (with_reducible first | exact HB.out | apply below_alloc | apply pw_below_drewN | apply below_drew1 | refine below_set ?_ GE126.out | refine below_set ?_ GE127.out | refine below_set ?_ GE128.out | refine below_set ?_ GE130.out) | exact HB.out)⟩⟩
      ·rw [if_neg c13] at H
       exact absurd H (by simp)
     ·rw [if_neg c12] at H
      exact absurd H (by simp)
    ·rw [if_neg c11] at H
     have c11b0 : decide (x15_1 < (l0.length : Int)) = false := decide_eq_false c11
     clear c11
     simp only [Option.some.injEq, Prod.mk.injEq] at H
     obtain ⟨rfl, rfl, rfl, rfl⟩ := H
     have hnb88 := NB127_126.out
     have hnc88 := NB126_127.out
     have hnb89 := NB127_128.out
     have hnc89 := NB128_127.out
     obtain ⟨hcz90_0, hcz90_1, hcz90_2, hcz90_3, hfz90_0, hfz90_1, hfz90_2, hfz90_3⟩ := bc4 BK127
     have hnb91 := NB128_126.out
     have hnc91 := NB126_128.out
     obtain ⟨hcz92_0, hcz92_1, hcz92_2, hcz92_3, hfz92_0, hfz92_1, hfz92_2, hfz92_3⟩ := bc4 BK128
     go_wp2
     refine bodyPost_ret (results_cell_row rfl _ _ gb128 41 #[.bool true, .int .i64 x128001_1, .int .i64 x128002_1, .int .u8 x128003_1] (0, 0) _ rfl (bkp BK128) Try.underlying41 rfl (by kernel_rfl)) rfl ?_
     exact ⟨by first | rfl | (simp [errW_none, errW_some] <;> rfl) | (simp [*, errW_none, errW_some] <;> rfl), by repeat (first | (with_reducible first | exact HB.out | apply below_alloc | apply pw_below_drewN | apply below_drew1 | refine below_set ?_ GE126.out | refine below_set ?_ GE127.out | refine below_set ?_ GE128.out) | exact HB.out)⟩
 ·replace c4 := Bool.eq_false_iff.mpr c4
  subst c4
  have H1 : (some (false, 0, 0, 0)) = some (r1, r2, r3, r4) := by rw [if_neg (show ¬ (false = true) by decide)] at H; exact H
  clear H
  have H := H1
  clear H1
  simp only [Option.some.injEq, Prod.mk.injEq] at H
  obtain ⟨rfl, rfl, rfl, rfl⟩ := H
  go_enter Try.func49, Try.ntmps49
  go_wp2_with (first | ((with_reducible refine gate_dst (N := 4) rfl ?_); refine bx 4 (cs := #[.int .u32 a1_0, .int .i64 a1_1]) (t := 35) (h := ?_); intro gb126 hg w93 hbox hb; have BK126 := Aside0.mk hbox; have GW126 : Aside0 (w.heap.size ≤ gb126) := bge hg; have GE126 : Aside0 (w.heap.size ≤ gb126) := bge hg; replace HB := bst hb; clear hb hbox hg) | ((with_reducible refine gate_dst (N := 5) rfl ?_); refine bx 5 (cs := #[.bool false, .int .i64 a2_1, .int .i64 a2_2, .int .u8 a2_3]) (t := 41) (h := ?_); intro gb127 hg w94 hbox hb; have BK127 := Aside0.mk hbox; have GW127 : Aside0 (w.heap.size ≤ gb127) := bge hg; have GE127 : Aside0 (w.heap.size ≤ gb127) := bge hg; have NB126_127 := bne BK126 hg; have NB127_126 := bnf BK126 hg; replace BK126 := bkb BK126 hb; replace HB := bst hb; clear hb hbox hg) | ((with_reducible refine gate_dst (N := 6) rfl ?_); refine bx 6 (cs := #[.bool false, .int .i64 0, .int .i64 0, .int .u8 0]) (t := 41) (h := ?_); intro gb128 hg w95 hbox hb; have BK128 := Aside0.mk hbox; have GW128 : Aside0 (w.heap.size ≤ gb128) := bge hg; have GE128 : Aside0 (w.heap.size ≤ gb128) := bge hg; have NB126_128 := bne BK126 hg; have NB128_126 := bnf BK126 hg; have NB127_128 := bne BK127 hg; have NB128_127 := bnf BK127 hg; replace BK126 := bkb BK126 hb; replace BK127 := bkb BK127 hb; replace HB := bst hb; clear hb hbox hg; have hnb96 := NB127_126.out; have hnc96 := NB126_127.out; have hnb97 := NB127_128.out; have hnc97 := NB128_127.out; obtain ⟨hcz98_0, hcz98_1, hcz98_2, hcz98_3, hfz98_0, hfz98_1, hfz98_2, hfz98_3⟩ := bc4 BK127; have hnb99 := NB128_126.out; have hnc99 := NB126_128.out; obtain ⟨hcz100_0, hcz100_1, hcz100_2, hcz100_3, hfz100_0, hfz100_1, hfz100_2, hfz100_3⟩ := bc4 BK128))
  refine bodyPost_ret (results_cell_row rfl _ _ gb128 41 #[.bool false, .int .i64 0, .int .i64 0, .int .u8 0] (0, 0) _ rfl (bkp BK128) Try.underlying41 rfl (by kernel_rfl)) rfl ?_
  exact ⟨by first | rfl | (simp [errW_none, errW_some] <;> rfl) | (simp [*, errW_none, errW_some] <;> rfl), by repeat (first | (with_reducible first | exact HB.out | apply below_alloc | apply pw_below_drewN | apply below_drew1 | refine below_set ?_ GE126.out | refine below_set ?_ GE127.out | refine below_set ?_ GE128.out) | exact HB.out)⟩

end Go.Proofs.Ytkhbpjhlekldpaa.PLift
