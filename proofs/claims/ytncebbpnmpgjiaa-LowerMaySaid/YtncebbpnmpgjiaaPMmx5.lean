-- Written by wip/xprint.py of this work: the printer of the kit, with contracts of this work beside it, shortened.
import Derived.Test.YtncebbpnmpgjiaaShort
import Derived.Test.YtncebbpnmpgjiaaPMmx0
import Derived.Test.YtncebbpnmpgjiaaPMmx4
namespace Go.Proofs.Ytncebbpnmpgjiaa.PMm
open Go.RowKit Go.Proofs.Ytncebbpnmpgjiaa.Short Go.Proofs.YtncebbpnmpgjiaaW.PrintWords Go.Proofs.YtncebbpnmpgjiaaW.PrintLast Go.Proofs.YtncebbpnmpgjiaaW.PrintMore
attribute [local go_sem] max2_int min2_int max_two min_two max_three min_three max_four min_four   -- for this text's walks alone
set_option linter.unusedVariables false
set_option linter.unusedSimpArgs false

/-! ### maquettelaw07_Rule_Clause: function 20 -/
mutual
def maquettelaw07_Rule_Clause.j0 : Nat → Int → Int → Int → Int → Int → Int → Bool → Int → Int → Int → Int → Bool → Int → Int → Int → Int → Option (Bool × Int × Int × Int × Int × Bool × Int × Int × Int × Int)
 | 0, _, _, _, _, _, _, _, _, _, _, _, _, _, _, _, _ => none
 | k + 1, x138000, x138001, x138002, x138003, x138004, x138005, x140000, x140001, x140002, x140003, x140004, x140005, x140006, x140007, x140008, x140009 => if x138002 > 60 then (maquettelaw07_Rule_Clause.j1 k x138000 x138001 x138002 x138003 x138004 x138005 x140000 x140001 x140002 x140003 0 x140005 x140006 x140007 x140008 x140009) else (maquettelaw07_Rule_Clause.j1 k x138000 x138001 x138002 x138003 x138004 x138005 x140000 x140001 x140002 x140003 x140004 x140005 x140006 x140007 x140008 x140009)
def maquettelaw07_Rule_Clause.j1 : Nat → Int → Int → Int → Int → Int → Int → Bool → Int → Int → Int → Int → Bool → Int → Int → Int → Int → Option (Bool × Int × Int × Int × Int × Bool × Int × Int × Int × Int)
 | 0, _, _, _, _, _, _, _, _, _, _, _, _, _, _, _, _ => none
 | k + 1, x138000, x138001, x138002, x138003, x138004, x138005, x140000, x140001, x140002, x140003, x140004, x140005, x140006, x140007, x140008, x140009 => if x138005 < 200 then (if x140000 = true then (some (x140000, x140001, x140002, x140003, x140004, x140005, x140006, x140007, x140008, 0)) else ((maquettelaw05_Make.f k x138000).bind fun bt140 => (some (x140000, bt140.1, bt140.2, x140003, x140004, x140005, x140006, x140007, x140008, 0)))) else (if x140000 = true then (some (x140000, x140001, x140002, x140003, x140004, x140005, x140006, x140007, x140008, x140009)) else ((maquettelaw05_Make.f k x138000).bind fun bt142 => (some (x140000, bt142.1, bt142.2, x140003, x140004, x140005, x140006, x140007, x140008, x140009))))
end
def maquettelaw07_Rule_Clause.f (k : Nat) (a0_0 : Int) (a0_1 : Int) (a0_2 : Int) (a0_3 : Int) (a0_4 : Int) (a0_5 : Int) : Option (Bool × Int × Int × Int × Int × Bool × Int × Int × Int × Int) := if a0_1 > 100 then (maquettelaw07_Rule_Clause.j0 k a0_0 a0_1 a0_2 a0_3 a0_4 a0_5 ((Int.tmod a0_0 3) == 0) 0 0 0 (Int.tmod a0_2 16) ((Int.tmod a0_3 4) == 3) ((Int.tdiv a0_3 16) % 256) ((Int.tdiv a0_4 16) % 256) (wrap64 (Int.tmod a0_4 4)) (wrap64 (a0_5))) else (maquettelaw07_Rule_Clause.j0 k a0_0 a0_1 a0_2 a0_3 a0_4 a0_5 ((Int.tmod a0_0 3) == 0) 0 0 (Int.tmod a0_1 16) (Int.tmod a0_2 16) ((Int.tmod a0_3 4) == 3) ((Int.tdiv a0_3 16) % 256) ((Int.tdiv a0_4 16) % 256) (wrap64 (Int.tmod a0_4 4)) (wrap64 (a0_5)))
theorem maquettelaw07_Rule_Clause.mono_l : ∀ k, (∀ y0 y1 y2 y3 y4 y5 y6 y7 y8 y9 y10 y11 y12 y13 y14 y15, LeO (maquettelaw07_Rule_Clause.j0 k y0 y1 y2 y3 y4 y5 y6 y7 y8 y9 y10 y11 y12 y13 y14 y15) (maquettelaw07_Rule_Clause.j0 (k + 1) y0 y1 y2 y3 y4 y5 y6 y7 y8 y9 y10 y11 y12 y13 y14 y15)) ∧ (∀ y0 y1 y2 y3 y4 y5 y6 y7 y8 y9 y10 y11 y12 y13 y14 y15, LeO (maquettelaw07_Rule_Clause.j1 k y0 y1 y2 y3 y4 y5 y6 y7 y8 y9 y10 y11 y12 y13 y14 y15) (maquettelaw07_Rule_Clause.j1 (k + 1) y0 y1 y2 y3 y4 y5 y6 y7 y8 y9 y10 y11 y12 y13 y14 y15))
 | 0 => ⟨fun _ _ _ _ _ _ _ _ _ _ _ _ _ _ _ _ r h => by simp [maquettelaw07_Rule_Clause.j0] at h, fun _ _ _ _ _ _ _ _ _ _ _ _ _ _ _ _ r h => by simp [maquettelaw07_Rule_Clause.j1] at h⟩
 | k + 1 => by
  obtain ⟨ih0, ih1⟩ := maquettelaw07_Rule_Clause.mono_l k
  refine ⟨?_, ?_⟩<;> intros <;> (first | unfold maquettelaw07_Rule_Clause.j0 | unfold maquettelaw07_Rule_Clause.j1) <;> repeat' first
   | (with_reducible exact ih0 _ _ _ _ _ _ _ _ _ _ _ _ _ _ _ _)
   | (with_reducible exact ih1 _ _ _ _ _ _ _ _ _ _ _ _ _ _ _ _)
   | (with_reducible exact maquettelaw05_Make.mono _ _)
   | (with_reducible exact LeO.refl _)
   | (with_reducible exact LeO.none _)
   | (with_reducible refine LeO.ite ?_ ?_)
   | (with_reducible refine LeO.bind ?_ (fun _ => ?_))
   | exact ih0 _ _ _ _ _ _ _ _ _ _ _ _ _ _ _ _
   | exact ih1 _ _ _ _ _ _ _ _ _ _ _ _ _ _ _ _
   | exact maquettelaw05_Make.mono _ _
   | exact LeO.none _
   | refine LeO.ite ?_ ?_
   | refine LeO.bind ?_ (fun _ => ?_)
theorem maquettelaw07_Rule_Clause.mono : ∀ a0 a1 a2 a3 a4 a5 k, LeO (maquettelaw07_Rule_Clause.f k a0 a1 a2 a3 a4 a5) (maquettelaw07_Rule_Clause.f (k + 1) a0 a1 a2 a3 a4 a5) := by
 intro a0 a1 a2 a3 a4 a5 k
 obtain ⟨ih0, ih1⟩ := maquettelaw07_Rule_Clause.mono_l k
 unfold maquettelaw07_Rule_Clause.f
 repeat' first
   | (with_reducible exact ih0 _ _ _ _ _ _ _ _ _ _ _ _ _ _ _ _)
   | (with_reducible exact ih1 _ _ _ _ _ _ _ _ _ _ _ _ _ _ _ _)
   | (with_reducible exact maquettelaw05_Make.mono _ _)
   | (with_reducible exact LeO.refl _)
   | (with_reducible exact LeO.none _)
   | (with_reducible refine LeO.ite ?_ ?_)
   | (with_reducible refine LeO.bind ?_ (fun _ => ?_))
   | exact ih0 _ _ _ _ _ _ _ _ _ _ _ _ _ _ _ _
   | exact ih1 _ _ _ _ _ _ _ _ _ _ _ _ _ _ _ _
   | exact maquettelaw05_Make.mono _ _
   | exact LeO.none _
   | refine LeO.ite ?_ ?_
   | refine LeO.bind ?_ (fun _ => ?_)
set_option maxHeartbeats 8000000 in
set_option maxRecDepth 100000 in
theorem maquettelaw07_Rule_Clause.calls (k : Nat) (a0_0 : Int) (a0_1 : Int) (a0_2 : Int) (a0_3 : Int) (a0_4 : Int) (a0_5 : Int) (r1 : Bool) (r2 : Int) (r3 : Int) (r4 : Int) (r5 : Int) (r6 : Bool) (r7 : Int) (r8 : Int) (r9 : Int) (r10 : Int) (w : World) (h : maquettelaw07_Rule_Clause.f k a0_0 a0_1 a0_2 a0_3 a0_4 a0_5 = some (r1, r2, r3, r4, r5, r6, r7, r8, r9, r10)) :
  Calls Try.prog 20 #[.agg #[.int .u8 a0_0, .int .u8 a0_1, .int .u8 a0_2, .int .u8 a0_3, .int .u8 a0_4, .int .u8 a0_5]] w fun e w' => e = .returned (.agg #[.bool r1, .int .u32 r2, .int .i64 r3, .int .u8 r4, .int .u8 r5, .bool r6, .int .u8 r7, .int .u8 r8, .int .i64 r9, .int .i64 r10]) ∧ Below w.heap.size w w' := by
 have hu75 := Try.underlying75
 have hu77 := Try.underlying77
 have hu36 := Try.underlying36
 have HB := Aside0.mk (Below.refl w.heap.size w)
 have H : (if a0_1 > 100 then (maquettelaw07_Rule_Clause.j0 k a0_0 a0_1 a0_2 a0_3 a0_4 a0_5 ((Int.tmod a0_0 3) == 0) 0 0 0 (Int.tmod a0_2 16) ((Int.tmod a0_3 4) == 3) ((Int.tdiv a0_3 16) % 256) ((Int.tdiv a0_4 16) % 256) (wrap64 (Int.tmod a0_4 4)) (wrap64 (a0_5))) else (maquettelaw07_Rule_Clause.j0 k a0_0 a0_1 a0_2 a0_3 a0_4 a0_5 ((Int.tmod a0_0 3) == 0) 0 0 (Int.tmod a0_1 16) (Int.tmod a0_2 16) ((Int.tmod a0_3 4) == 3) ((Int.tdiv a0_3 16) % 256) ((Int.tdiv a0_4 16) % 256) (wrap64 (Int.tmod a0_4 4)) (wrap64 (a0_5)))) = some (r1, r2, r3, r4, r5, r6, r7, r8, r9, r10) := h
 clear h
 have HC2 := Aside0.mk H
 clear H
 go_enter Try.func20, Try.ntmps20
 go_upto_if 34 with (first | ((with_reducible refine gate_dst (N := 1) rfl ?_); refine bx 1 (cs := #[.int .u8 a0_0, .int .u8 a0_1, .int .u8 a0_2, .int .u8 a0_3, .int .u8 a0_4, .int .u8 a0_5]) (t := 75) (h := ?_); intro gb137 hg w3 hbox hb; have BK137 := Aside0.mk hbox; have GW137 : Aside0 (w.heap.size ≤ gb137) := bge hg; have GE137 : Aside0 (w.heap.size ≤ gb137) := bge hg; replace HB := bst hb; clear hb hbox hg) | ((with_reducible refine gate_dst (N := 2) rfl ?_); refine bx 2 (cs := #[.bool false, .int .u32 0, .int .i64 0, .int .u8 0, .int .u8 0, .bool false, .int .u8 0, .int .u8 0, .int .i64 0, .int .i64 0]) (t := 77) (h := ?_); intro gb138 hg w4 hbox hb; have BK138 := Aside0.mk hbox; have GW138 : Aside0 (w.heap.size ≤ gb138) := bge hg; have GE138 : Aside0 (w.heap.size ≤ gb138) := bge hg; have NB137_138 := bne BK137 hg; have NB138_137 := bnf BK137 hg; replace BK137 := bkb BK137 hb; replace HB := bst hb; clear hb hbox hg; have hnb5 := NB137_138.out; have hnc5 := NB138_137.out; obtain ⟨hcz6_0, hcz6_1, hcz6_2, hcz6_3, hcz6_4, hcz6_5, hfz6_0, hfz6_1, hfz6_2, hfz6_3, hfz6_4, hfz6_5⟩ := bc6 BK137) | ((with_reducible refine gate_dst (N := 3) rfl ?_); refine bx 3 (cs := #[.bool false, .int .u32 0, .int .i64 0, .int .u8 0, .int .u8 0, .bool false, .int .u8 0, .int .u8 0, .int .i64 0, .int .i64 0]) (t := 77) (h := ?_); intro gb139 hg w7 hbox hb; have BK139 := Aside0.mk hbox; have GW139 : Aside0 (w.heap.size ≤ gb139) := bge hg; have GE139 : Aside0 (w.heap.size ≤ gb139) := bge hg; have NB137_139 := bne BK137 hg; have NB139_137 := bnf BK137 hg; have NB138_139 := bne BK138 hg; have NB139_138 := bnf BK138 hg; replace BK137 := bkb BK137 hb; replace BK138 := bkb BK138 hb; replace HB := bst hb; clear hb hbox hg; have hnb8 := NB139_137.out; have hnc8 := NB137_139.out; have hnb9 := NB139_138.out; have hnc9 := NB138_139.out; obtain ⟨hcz10_0, hcz10_1, hcz10_2, hcz10_3, hcz10_4, hcz10_5, hcz10_6, hcz10_7, hcz10_8, hcz10_9, hfz10_0, hfz10_1, hfz10_2, hfz10_3, hfz10_4, hfz10_5, hfz10_6, hfz10_7, hfz10_8, hfz10_9⟩ := bc10 BK139; obtain ⟨hcz11_0, hcz11_1, hcz11_2, hcz11_3, hcz11_4, hcz11_5, hfz11_0, hfz11_1, hfz11_2, hfz11_3, hfz11_4, hfz11_5⟩ := bc6 BK137))
 (try simp only [Act.put, List.setIfInBounds_toArray, List.set_cons_zero, List.set_cons_succ])
 go_cut [] (fun wc => ∃ (kq : Nat) (x140003_1 : Int), Aside0 (maquettelaw07_Rule_Clause.j0 kq a0_0 a0_1 a0_2 a0_3 a0_4 a0_5 ((Int.tmod a0_0 3) == 0) 0 0 x140003_1 (Int.tmod a0_2 16) ((Int.tmod a0_3 4) == 3) ((Int.tdiv a0_3 16) % 256) ((Int.tdiv a0_4 16) % 256) (wrap64 (Int.tmod a0_4 4)) (wrap64 (a0_5)) = some (r1, r2, r3, r4, r5, r6, r7, r8, r9, r10)) ∧ Aside0 (kq ≤ k) ∧ Aside0 (wc.heap[gb137]? = some (.cells #[.int .u8 a0_0, .int .u8 a0_1, .int .u8 a0_2, .int .u8 a0_3, .int .u8 a0_4, .int .u8 a0_5] 75 (0, 0))) ∧ Aside0 (wc.heap[gb138]? = some (.cells #[.bool false, .int .u32 0, .int .i64 0, .int .u8 0, .int .u8 0, .bool false, .int .u8 0, .int .u8 0, .int .i64 0, .int .i64 0] 77 (0, 0))) ∧ Aside0 (wc.heap[gb139]? = some (.cells #[.bool ((Int.tmod a0_0 3) == 0), .int .u32 0, .int .i64 0, .int .u8 x140003_1, .int .u8 (Int.tmod a0_2 16), .bool ((Int.tmod a0_3 4) == 3), .int .u8 ((Int.tdiv a0_3 16) % 256), .int .u8 ((Int.tdiv a0_4 16) % 256), .int .i64 (wrap64 (Int.tmod a0_4 4)), .int .i64 (wrap64 (a0_5))] 77 (0, 0))) ∧ Aside0 (Below w.heap.size w wc))
 case first =>
  have H := HC2.out
  clear HC2
  by_cases c12 : a0_1 > 100
  ·rw [if_pos c12] at H
   have c12b0 : decide (100 < a0_1) = true := decide_eq_true c12
   clear c12
   (first | rw [c12b0] | (simp only [i64_w, i32_w]; rw [c12b0]) | skip)
   have H' := Aside0.mk H
   clear H
   have hnb13 := NB139_137.out
   have hnc13 := NB137_139.out
   have hnb14 := NB139_138.out
   have hnc14 := NB138_139.out
   obtain ⟨hcz15_0, hcz15_1, hcz15_2, hcz15_3, hcz15_4, hcz15_5, hcz15_6, hcz15_7, hcz15_8, hcz15_9, hfz15_0, hfz15_1, hfz15_2, hfz15_3, hfz15_4, hfz15_5, hfz15_6, hfz15_7, hfz15_8, hfz15_9⟩ := bc10 BK139
   go_wp2
   go_meet
   case rel => exact ⟨_, (0), H', ⟨by first | omega | exact Nat.le_refl _⟩, ⟨bkq BK137⟩, ⟨bkq BK138⟩, ⟨bkp BK139⟩, ⟨by repeat (first | (with_reducible first | exact HB.out | apply below_alloc | apply pw_below_drewN | apply below_drew1 | refine below_set ?_ GE137.out | refine below_set ?_ GE138.out | refine below_set ?_ GE139.out) | exact HB.out)⟩⟩
  ·rw [if_neg c12] at H
   have c12b0 : decide (100 < a0_1) = false := decide_eq_false c12
   clear c12
   (first | rw [c12b0] | (simp only [i64_w, i32_w]; rw [c12b0]) | skip)
   have H' := Aside0.mk H
   clear H
   go_wp2
   go_meet
   case rel => exact ⟨_, (Int.tmod a0_1 16), H', ⟨by first | omega | exact Nat.le_refl _⟩, ⟨bkq BK137⟩, ⟨bkq BK138⟩, ⟨bkp BK139⟩, ⟨by repeat (first | (with_reducible first | exact HB.out | apply below_alloc | apply pw_below_drewN | apply below_drew1 | refine below_set ?_ GE137.out | refine below_set ?_ GE138.out | refine below_set ?_ GE139.out) | exact HB.out)⟩⟩
 case rest =>
  clear HC2
  try clear c1
  try clear c2
  try clear p2
  try clear c5
  try clear p6
  try clear c8
  try clear c9
  try clear c12
  try clear c12b0
  try clear c13
  try clear c14
  try clear hcz10_0 hcz10_1 hcz10_2 hcz10_3 hcz10_4 hcz10_5 hcz10_6 hcz10_7 hcz10_8 hcz10_9 hfz10_0 hfz10_1 hfz10_2 hfz10_3 hfz10_4 hfz10_5 hfz10_6 hfz10_7 hfz10_8 hfz10_9
  try clear hcz11_0 hcz11_1 hcz11_2 hcz11_3 hcz11_4 hcz11_5 hfz11_0 hfz11_1 hfz11_2 hfz11_3 hfz11_4 hfz11_5
  try clear hcz15_0 hcz15_1 hcz15_2 hcz15_3 hcz15_4 hcz15_5 hcz15_6 hcz15_7 hcz15_8 hcz15_9 hfz15_0 hfz15_1 hfz15_2 hfz15_3 hfz15_4 hfz15_5 hfz15_6 hfz15_7 hfz15_8 hfz15_9
  try clear hcz6_0 hcz6_1 hcz6_2 hcz6_3 hcz6_4 hcz6_5 hfz6_0 hfz6_1 hfz6_2 hfz6_3 hfz6_4 hfz6_5
  obtain ⟨kq, x140003_1, HA, HJ1, BK137, BK138, BK139, HB⟩ := hcut
  cases kq with
  | zero => exact absurd HA.out (by simp [maquettelaw07_Rule_Clause.j0])
  | succ kj1 =>
   have H := HA.out
   clear HA
   simp only [maquettelaw07_Rule_Clause.j0] at H
   have HC16 := Aside0.mk H
   clear H
   have hnb17 := NB137_138.out
   have hnc17 := NB138_137.out
   have hnb18 := NB137_139.out
   have hnc18 := NB139_137.out
   obtain ⟨hcz19_0, hcz19_1, hcz19_2, hcz19_3, hcz19_4, hcz19_5, hfz19_0, hfz19_1, hfz19_2, hfz19_3, hfz19_4, hfz19_5⟩ := bc6 BK137
   go_upto_if 38 with (fail)
   go_cut [] (fun wc => ∃ (kq : Nat) (x140004_15 : Int), Aside0 (maquettelaw07_Rule_Clause.j1 kq a0_0 a0_1 a0_2 a0_3 a0_4 a0_5 ((Int.tmod a0_0 3) == 0) 0 0 x140003_1 x140004_15 ((Int.tmod a0_3 4) == 3) ((Int.tdiv a0_3 16) % 256) ((Int.tdiv a0_4 16) % 256) (wrap64 (Int.tmod a0_4 4)) (wrap64 (a0_5)) = some (r1, r2, r3, r4, r5, r6, r7, r8, r9, r10)) ∧ Aside0 (kq ≤ kj1) ∧ Aside0 (wc.heap[gb137]? = some (.cells #[.int .u8 a0_0, .int .u8 a0_1, .int .u8 a0_2, .int .u8 a0_3, .int .u8 a0_4, .int .u8 a0_5] 75 (0, 0))) ∧ Aside0 (wc.heap[gb138]? = some (.cells #[.bool false, .int .u32 0, .int .i64 0, .int .u8 0, .int .u8 0, .bool false, .int .u8 0, .int .u8 0, .int .i64 0, .int .i64 0] 77 (0, 0))) ∧ Aside0 (wc.heap[gb139]? = some (.cells #[.bool ((Int.tmod a0_0 3) == 0), .int .u32 0, .int .i64 0, .int .u8 x140003_1, .int .u8 x140004_15, .bool ((Int.tmod a0_3 4) == 3), .int .u8 ((Int.tdiv a0_3 16) % 256), .int .u8 ((Int.tdiv a0_4 16) % 256), .int .i64 (wrap64 (Int.tmod a0_4 4)), .int .i64 (wrap64 (a0_5))] 77 (0, 0))) ∧ Aside0 (Below w.heap.size w wc))
   case first =>
    have H := HC16.out
    clear HC16
    by_cases c20 : a0_2 > 60
    ·rw [if_pos c20] at H
     have c20b0 : decide (60 < a0_2) = true := decide_eq_true c20
     clear c20
     (first | rw [c20b0] | (simp only [i64_w, i32_w]; rw [c20b0]) | skip)
     have H' := Aside0.mk H
     clear H
     have hnb21 := NB139_137.out
     have hnc21 := NB137_139.out
     have hnb22 := NB139_138.out
     have hnc22 := NB138_139.out
     obtain ⟨hcz23_0, hcz23_1, hcz23_2, hcz23_3, hcz23_4, hcz23_5, hcz23_6, hcz23_7, hcz23_8, hcz23_9, hfz23_0, hfz23_1, hfz23_2, hfz23_3, hfz23_4, hfz23_5, hfz23_6, hfz23_7, hfz23_8, hfz23_9⟩ := bc10 BK139
     go_wp2
     go_meet
     case rel => exact ⟨_, (0), H', ⟨by have := HJ1.out; first | omega | exact Nat.le_refl _⟩, ⟨bkq BK137⟩, ⟨bkq BK138⟩, ⟨bkp BK139⟩, ⟨by repeat (first | (with_reducible first | exact HB.out | apply below_alloc | apply pw_below_drewN | apply below_drew1 | refine below_set ?_ GE137.out | refine below_set ?_ GE138.out | refine below_set ?_ GE139.out) | exact HB.out)⟩⟩
    ·rw [if_neg c20] at H
     have c20b0 : decide (60 < a0_2) = false := decide_eq_false c20
     clear c20
     (first | rw [c20b0] | (simp only [i64_w, i32_w]; rw [c20b0]) | skip)
     have H' := Aside0.mk H
     clear H
     go_wp2
     go_meet
     case rel => exact ⟨_, ((Int.tmod a0_2 16)), H', ⟨by have := HJ1.out; first | omega | exact Nat.le_refl _⟩, ⟨bkq BK137⟩, ⟨bkq BK138⟩, ⟨bkq BK139⟩, ⟨by repeat (first | (with_reducible first | exact HB.out | apply below_alloc | apply pw_below_drewN | apply below_drew1 | refine below_set ?_ GE137.out | refine below_set ?_ GE138.out | refine below_set ?_ GE139.out) | exact HB.out)⟩⟩
   case rest =>
    clear HC16
    try clear c1
    try clear c2
    try clear p2 p2
    try clear c5
    try clear p6 p6
    try clear c8
    try clear c9
    try clear c12
    try clear c12b0
    try clear c13
    try clear c14
    try clear c17
    try clear c18
    try clear c20
    try clear c20b0
    try clear c21
    try clear c22
    try clear hcz10_0 hcz10_1 hcz10_2 hcz10_3 hcz10_4 hcz10_5 hcz10_6 hcz10_7 hcz10_8 hcz10_9 hfz10_0 hfz10_1 hfz10_2 hfz10_3 hfz10_4 hfz10_5 hfz10_6 hfz10_7 hfz10_8 hfz10_9
    try clear hcz11_0 hcz11_1 hcz11_2 hcz11_3 hcz11_4 hcz11_5 hfz11_0 hfz11_1 hfz11_2 hfz11_3 hfz11_4 hfz11_5
    try clear hcz15_0 hcz15_1 hcz15_2 hcz15_3 hcz15_4 hcz15_5 hcz15_6 hcz15_7 hcz15_8 hcz15_9 hfz15_0 hfz15_1 hfz15_2 hfz15_3 hfz15_4 hfz15_5 hfz15_6 hfz15_7 hfz15_8 hfz15_9
    try clear hcz19_0 hcz19_1 hcz19_2 hcz19_3 hcz19_4 hcz19_5 hfz19_0 hfz19_1 hfz19_2 hfz19_3 hfz19_4 hfz19_5
    try clear hcz23_0 hcz23_1 hcz23_2 hcz23_3 hcz23_4 hcz23_5 hcz23_6 hcz23_7 hcz23_8 hcz23_9 hfz23_0 hfz23_1 hfz23_2 hfz23_3 hfz23_4 hfz23_5 hfz23_6 hfz23_7 hfz23_8 hfz23_9
    try clear hcz6_0 hcz6_1 hcz6_2 hcz6_3 hcz6_4 hcz6_5 hfz6_0 hfz6_1 hfz6_2 hfz6_3 hfz6_4 hfz6_5
    obtain ⟨kq, x140004_15, HA, HJ15, BK137, BK138, BK139, HB⟩ := hcut
    cases kq with
    | zero => exact absurd HA.out (by simp [maquettelaw07_Rule_Clause.j1])
    | succ kj15 =>
     have H := HA.out
     clear HA
     simp only [maquettelaw07_Rule_Clause.j1] at H
     by_cases c24 : a0_5 < 200
     ·rw [if_pos c24] at H
      have c24b0 := decide_eq_true c24
      clear c24
      by_cases c25 : ((Int.tmod a0_0 3) == 0) = true
      ·rw [if_pos c25] at H
       have c25b0 : ((Int.tmod a0_0 3) == 0) = true := c25
       (try (have c25b1 : decide ((Int.tmod a0_0 3) = 0) = true := by simpa using c25))
       (try (have c25b2 : ((Int.tmod a0_0 3) == 0) = true := by simpa using c25))
       clear c25
       simp only [Option.some.injEq, Prod.mk.injEq] at H
       obtain ⟨rfl, rfl, rfl, rfl, rfl, rfl, rfl, rfl, rfl, rfl⟩ := H
       have hnb26 := NB137_138.out
       have hnc26 := NB138_137.out
       have hnb27 := NB137_139.out
       have hnc27 := NB139_137.out
       obtain ⟨hcz28_0, hcz28_1, hcz28_2, hcz28_3, hcz28_4, hcz28_5, hfz28_0, hfz28_1, hfz28_2, hfz28_3, hfz28_4, hfz28_5⟩ := bc6 BK137
       have hnb29 := NB139_138.out
       have hnc29 := NB138_139.out
       obtain ⟨hcz30_0, hcz30_1, hcz30_2, hcz30_3, hcz30_4, hcz30_5, hcz30_6, hcz30_7, hcz30_8, hcz30_9, hfz30_0, hfz30_1, hfz30_2, hfz30_3, hfz30_4, hfz30_5, hfz30_6, hfz30_7, hfz30_8, hfz30_9⟩ := bc10 BK139
       obtain ⟨hcz31_0, hcz31_1, hcz31_2, hcz31_3, hcz31_4, hcz31_5, hcz31_6, hcz31_7, hcz31_8, hcz31_9, hfz31_0, hfz31_1, hfz31_2, hfz31_3, hfz31_4, hfz31_5, hfz31_6, hfz31_7, hfz31_8, hfz31_9⟩ := bc10 BK138
       go_wp2
       refine bodyPost_ret (results_cell_row rfl _ _ gb138 77 #[.bool ((Int.tmod a0_0 3) == 0), .int .u32 0, .int .i64 0, .int .u8 x140003_1, .int .u8 x140004_15, .bool ((Int.tmod a0_3 4) == 3), .int .u8 ((Int.tdiv a0_3 16) % 256), .int .u8 ((Int.tdiv a0_4 16) % 256), .int .i64 (wrap64 (Int.tmod a0_4 4)), .int .i64 0] (0, 0) _ rfl (bkp BK138) Try.underlying77 rfl (by kernel_rfl)) rfl ?_
       exact ⟨by first | rfl | (simp [errW_none, errW_some] <;> rfl) | (simp [*, errW_none, errW_some] <;> rfl), by repeat (first | (with_reducible first | exact HB.out | apply below_alloc | apply pw_below_drewN | apply below_drew1 | refine below_set ?_ GE137.out | refine below_set ?_ GE138.out | refine below_set ?_ GE139.out) | exact HB.out)⟩
      ·rw [if_neg c25] at H
       have c25b0 : ((Int.tmod a0_0 3) == 0) = false := by simpa using c25
       (try (have c25b1 : decide ((Int.tmod a0_0 3) = 0) = false := by simpa using c25))
       (try (have c25b2 : ((Int.tmod a0_0 3) == 0) = false := by simpa using c25))
       (try (have c25b3 : ¬ ((Int.tmod a0_0 3) = 0) := by simpa using c25))
       clear c25
       replace H := Option.bind_eq_some_iff.mp H
       obtain ⟨⟨t140, t141⟩, A320, H⟩ := H
       replace H : (some (((Int.tmod a0_0 3) == 0), t140, t141, x140003_1, x140004_15, ((Int.tmod a0_3 4) == 3), ((Int.tdiv a0_3 16) % 256), ((Int.tdiv a0_4 16) % 256), (wrap64 (Int.tmod a0_4 4)), 0)) = some (r1, r2, r3, r4, r5, r6, r7, r8, r9, r10) := H
       have A32 := Aside0.mk A320
       clear A320
       simp only [Option.some.injEq, Prod.mk.injEq] at H
       obtain ⟨rfl, rfl, rfl, rfl, rfl, rfl, rfl, rfl, rfl, rfl⟩ := H
       have hnb33 := NB137_138.out
       have hnc33 := NB138_137.out
       have hnb34 := NB137_139.out
       have hnc34 := NB139_137.out
       obtain ⟨hcz35_0, hcz35_1, hcz35_2, hcz35_3, hcz35_4, hcz35_5, hfz35_0, hfz35_1, hfz35_2, hfz35_3, hfz35_4, hfz35_5⟩ := bc6 BK137
       have hnb36 := NB139_138.out
       have hnc36 := NB138_139.out
       obtain ⟨hcz37_0, hcz37_1, hcz37_2, hcz37_3, hcz37_4, hcz37_5, hcz37_6, hcz37_7, hcz37_8, hcz37_9, hfz37_0, hfz37_1, hfz37_2, hfz37_3, hfz37_4, hfz37_5, hfz37_6, hfz37_7, hfz37_8, hfz37_9⟩ := bc10 BK139
       go_wp2_with (first | ((with_reducible refine gate_dst (N := 49) rfl ?_); refine gl (some 49) Try.func11 #[.int .u8 a0_0] ?_; (with_reducible refine (maquettelaw05_Make.calls kj15 a0_0 t140 t141 _ A32.out).mono ?_); rintro e w38 ⟨rfl, hb⟩; refine ⟨_, rfl, ?_⟩; replace BK137 := bkb BK137 hb; replace BK138 := bkb BK138 hb; replace BK139 := Aside0.mk (blk_below (g := gb139) (o := .cells #[.bool ((Int.tmod a0_0 3) == 0), .int .u32 0, .int .i64 0, .int .u8 x140003_1, .int .u8 x140004_15, .bool ((Int.tmod a0_3 4) == 3), .int .u8 ((Int.tdiv a0_3 16) % 256), .int .u8 ((Int.tdiv a0_4 16) % 256), .int .i64 (wrap64 (Int.tmod a0_4 4)), .int .i64 0] 77 (0, 0)) (bkp BK139) hb); replace HB := bst hb; (try clear hb); (try clear hb2); (try clear hk); (try clear hi); obtain ⟨hcz39_0, hcz39_1, hcz39_2, hcz39_3, hcz39_4, hcz39_5, hcz39_6, hcz39_7, hcz39_8, hcz39_9, hfz39_0, hfz39_1, hfz39_2, hfz39_3, hfz39_4, hfz39_5, hfz39_6, hfz39_7, hfz39_8, hfz39_9⟩ := bc10 BK139; obtain ⟨hcz40_0, hcz40_1, hcz40_2, hcz40_3, hcz40_4, hcz40_5, hcz40_6, hcz40_7, hcz40_8, hcz40_9, hfz40_0, hfz40_1, hfz40_2, hfz40_3, hfz40_4, hfz40_5, hfz40_6, hfz40_7, hfz40_8, hfz40_9⟩ := bc10 BK138))
       refine bodyPost_ret (results_cell_row rfl _ _ gb138 77 #[.bool ((Int.tmod a0_0 3) == 0), .int .u32 t140, .int .i64 t141, .int .u8 x140003_1, .int .u8 x140004_15, .bool ((Int.tmod a0_3 4) == 3), .int .u8 ((Int.tdiv a0_3 16) % 256), .int .u8 ((Int.tdiv a0_4 16) % 256), .int .i64 (wrap64 (Int.tmod a0_4 4)), .int .i64 0] (0, 0) _ rfl (bkp BK138) Try.underlying77 rfl (by kernel_rfl)) rfl ?_
       exact ⟨by first | rfl | (simp [errW_none, errW_some] <;> rfl) | (simp [*, errW_none, errW_some] <;> rfl), by repeat (first | (with_reducible first | exact HB.out | apply below_alloc | apply pw_below_drewN | apply below_drew1 | refine below_set ?_ GE137.out | refine below_set ?_ GE138.out | refine below_set ?_ GE139.out) | exact HB.out)⟩
     ·rw [if_neg c24] at H
      have c24b0 := decide_eq_false c24
      clear c24
      by_cases c41 : ((Int.tmod a0_0 3) == 0) = true
      ·rw [if_pos c41] at H
       have c41b0 : ((Int.tmod a0_0 3) == 0) = true := c41
       (try (have c41b1 : decide ((Int.tmod a0_0 3) = 0) = true := by simpa using c41))
       (try (have c41b2 : ((Int.tmod a0_0 3) == 0) = true := by simpa using c41))
       clear c41
       simp only [Option.some.injEq, Prod.mk.injEq] at H
       obtain ⟨rfl, rfl, rfl, rfl, rfl, rfl, rfl, rfl, rfl, rfl⟩ := H
       have hnb42 := NB137_138.out
       have hnc42 := NB138_137.out
       have hnb43 := NB137_139.out
       have hnc43 := NB139_137.out
       obtain ⟨hcz44_0, hcz44_1, hcz44_2, hcz44_3, hcz44_4, hcz44_5, hfz44_0, hfz44_1, hfz44_2, hfz44_3, hfz44_4, hfz44_5⟩ := bc6 BK137
       have hnb45 := NB139_138.out
       have hnc45 := NB138_139.out
       obtain ⟨hcz46_0, hcz46_1, hcz46_2, hcz46_3, hcz46_4, hcz46_5, hcz46_6, hcz46_7, hcz46_8, hcz46_9, hfz46_0, hfz46_1, hfz46_2, hfz46_3, hfz46_4, hfz46_5, hfz46_6, hfz46_7, hfz46_8, hfz46_9⟩ := bc10 BK139
       obtain ⟨hcz47_0, hcz47_1, hcz47_2, hcz47_3, hcz47_4, hcz47_5, hcz47_6, hcz47_7, hcz47_8, hcz47_9, hfz47_0, hfz47_1, hfz47_2, hfz47_3, hfz47_4, hfz47_5, hfz47_6, hfz47_7, hfz47_8, hfz47_9⟩ := bc10 BK138
       go_wp2
       refine bodyPost_ret (results_cell_row rfl _ _ gb138 77 #[.bool ((Int.tmod a0_0 3) == 0), .int .u32 0, .int .i64 0, .int .u8 x140003_1, .int .u8 x140004_15, .bool ((Int.tmod a0_3 4) == 3), .int .u8 ((Int.tdiv a0_3 16) % 256), .int .u8 ((Int.tdiv a0_4 16) % 256), .int .i64 (wrap64 (Int.tmod a0_4 4)), .int .i64 (wrap64 (a0_5))] (0, 0) _ rfl (bkp BK138) Try.underlying77 rfl (by kernel_rfl)) rfl ?_
       exact ⟨by first | rfl | (simp [errW_none, errW_some] <;> rfl) | (simp [*, errW_none, errW_some] <;> rfl), by repeat (first | (with_reducible first | exact HB.out | apply below_alloc | apply pw_below_drewN | apply below_drew1 | refine below_set ?_ GE137.out | refine below_set ?_ GE138.out | refine below_set ?_ GE139.out) | exact HB.out)⟩
      ·rw [if_neg c41] at H
       have c41b0 : ((Int.tmod a0_0 3) == 0) = false := by simpa using c41
       (try (have c41b1 : decide ((Int.tmod a0_0 3) = 0) = false := by simpa using c41))
       (try (have c41b2 : ((Int.tmod a0_0 3) == 0) = false := by simpa using c41))
       (try (have c41b3 : ¬ ((Int.tmod a0_0 3) = 0) := by simpa using c41))
       clear c41
       replace H := Option.bind_eq_some_iff.mp H
       obtain ⟨⟨t142, t143⟩, A480, H⟩ := H
       replace H : (some (((Int.tmod a0_0 3) == 0), t142, t143, x140003_1, x140004_15, ((Int.tmod a0_3 4) == 3), ((Int.tdiv a0_3 16) % 256), ((Int.tdiv a0_4 16) % 256), (wrap64 (Int.tmod a0_4 4)), (wrap64 (a0_5)))) = some (r1, r2, r3, r4, r5, r6, r7, r8, r9, r10) := H
       have A48 := Aside0.mk A480
       clear A480
       simp only [Option.some.injEq, Prod.mk.injEq] at H
       obtain ⟨rfl, rfl, rfl, rfl, rfl, rfl, rfl, rfl, rfl, rfl⟩ := H
       have hnb49 := NB137_138.out
       have hnc49 := NB138_137.out
       have hnb50 := NB137_139.out
       have hnc50 := NB139_137.out
       obtain ⟨hcz51_0, hcz51_1, hcz51_2, hcz51_3, hcz51_4, hcz51_5, hfz51_0, hfz51_1, hfz51_2, hfz51_3, hfz51_4, hfz51_5⟩ := bc6 BK137
       have hnb52 := NB139_138.out
       have hnc52 := NB138_139.out
       obtain ⟨hcz53_0, hcz53_1, hcz53_2, hcz53_3, hcz53_4, hcz53_5, hcz53_6, hcz53_7, hcz53_8, hcz53_9, hfz53_0, hfz53_1, hfz53_2, hfz53_3, hfz53_4, hfz53_5, hfz53_6, hfz53_7, hfz53_8, hfz53_9⟩ := bc10 BK139
       go_wp2_with (first | ((with_reducible refine gate_dst (N := 49) rfl ?_); refine gl (some 49) Try.func11 #[.int .u8 a0_0] ?_; (with_reducible refine (maquettelaw05_Make.calls kj15 a0_0 t142 t143 _ A48.out).mono ?_); rintro e w54 ⟨rfl, hb⟩; refine ⟨_, rfl, ?_⟩; replace BK137 := bkb BK137 hb; replace BK138 := bkb BK138 hb; replace BK139 := bkb BK139 hb; replace HB := bst hb; (try clear hb); (try clear hb2); (try clear hk); (try clear hi); obtain ⟨hcz55_0, hcz55_1, hcz55_2, hcz55_3, hcz55_4, hcz55_5, hcz55_6, hcz55_7, hcz55_8, hcz55_9, hfz55_0, hfz55_1, hfz55_2, hfz55_3, hfz55_4, hfz55_5, hfz55_6, hfz55_7, hfz55_8, hfz55_9⟩ := bc10 BK139; obtain ⟨hcz56_0, hcz56_1, hcz56_2, hcz56_3, hcz56_4, hcz56_5, hcz56_6, hcz56_7, hcz56_8, hcz56_9, hfz56_0, hfz56_1, hfz56_2, hfz56_3, hfz56_4, hfz56_5, hfz56_6, hfz56_7, hfz56_8, hfz56_9⟩ := bc10 BK138))
       refine bodyPost_ret (results_cell_row rfl _ _ gb138 77 #[.bool ((Int.tmod a0_0 3) == 0), .int .u32 t142, .int .i64 t143, .int .u8 x140003_1, .int .u8 x140004_15, .bool ((Int.tmod a0_3 4) == 3), .int .u8 ((Int.tdiv a0_3 16) % 256), .int .u8 ((Int.tdiv a0_4 16) % 256), .int .i64 (wrap64 (Int.tmod a0_4 4)), .int .i64 (wrap64 (a0_5))] (0, 0) _ rfl (bkp BK138) Try.underlying77 rfl (by kernel_rfl)) rfl ?_
       exact ⟨by first | rfl | (simp [errW_none, errW_some] <;> rfl) | (simp [*, errW_none, errW_some] <;> rfl), by repeat (first | (with_reducible first | exact HB.out | apply below_alloc | apply pw_below_drewN | apply below_drew1 | refine below_set ?_ GE137.out | refine below_set ?_ GE138.out | refine below_set ?_ GE139.out) | exact HB.out)⟩

end Go.Proofs.Ytncebbpnmpgjiaa.PMm
