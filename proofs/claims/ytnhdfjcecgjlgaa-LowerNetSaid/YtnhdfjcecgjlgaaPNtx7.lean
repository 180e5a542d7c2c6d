import Derived.Test.YtnhdfjcecgjlgaaShort
import Derived.Test.YtnhdfjcecgjlgaaSh2
import Derived.Test.YtnhdfjcecgjlgaaPNtx0
import Derived.Test.YtnhdfjcecgjlgaaPNtx6
namespace Go.Proofs.Ytnhdfjcecgjlgaa.PNt
open Go.RowKit Go.Proofs.Ytnhdfjcecgjlgaa.Short Go.Proofs.YtnhdfjcecgjlgaaW.PrintWords Go.Proofs.YtnhdfjcecgjlgaaW.PrintLast Go.Proofs.YtnhdfjcecgjlgaaW.PrintMore
attribute [local go_sem] max2_int min2_int max_two min_two max_three min_three max_four min_four
set_option linter.unusedVariables false
set_option linter.unusedSimpArgs false
mutual
def maquettelaw07_Rule_Clause.j0 : Nat → Int → Int → Int → Int → Int → Int → Bool → Int → Int → Int → Int → Bool → Int → Int → Int → Int → Option (Bool × Int × Int × Int × Int × Bool × Int × Int × Int × Int)
 | 0, _, _, _, _, _, _, _, _, _, _, _, _, _, _, _, _ => none
 | k + 1, x138000, x138001, x138002, x138003, x138004, x138005, x140000, x140001, x140002, x140003, x140004, x140005, x140006, x140007, x140008, x140009 => if x138002 > 60 then (maquettelaw07_Rule_Clause.j1 k x138000 x138001 x138002 x138003 x138004 x138005 x140000 x140001 x140002 x140003 0 x140005 x140006 x140007 x140008 x140009) else (maquettelaw07_Rule_Clause.j1 k x138000 x138001 x138002 x138003 x138004 x138005 x140000 x140001 x140002 x140003 x140004 x140005 x140006 x140007 x140008 x140009)
def maquettelaw07_Rule_Clause.j1 : Nat → Int → Int → Int → Int → Int → Int → Bool → Int → Int → Int → Int → Bool → Int → Int → Int → Int → Option (Bool × Int × Int × Int × Int × Bool × Int × Int × Int × Int)
 | 0, _, _, _, _, _, _, _, _, _, _, _, _, _, _, _, _ => none
 | k + 1, x138000, x138001, x138002, x138003, x138004, x138005, x140000, x140001, x140002, x140003, x140004, x140005, x140006, x140007, x140008, x140009 => if x138005 < 200 then (if x140000 = true then (some (x140000, x140001, x140002, x140003, x140004, x140005, x140006, x140007, x140008, 0)) else ((maquettelaw05_Make.f k x138000).bind fun bt140 => (some (x140000, bt140.1, bt140.2, x140003, x140004, x140005, x140006, x140007, x140008, 0)))) else (if x140000 = true then (some (x140000, x140001, x140002, x140003, x140004, x140005, x140006, x140007, x140008, x140009)) else ((maquettelaw05_Make.f k x138000).bind fun bt142 => (some (x140000, bt142.1, bt142.2, x140003, x140004, x140005, x140006, x140007, x140008, x140009))))
end
def maquettelaw07_Rule_Clause.f (k : Nat) (a0_0 : Int) (a0_1 : Int) (a0_2 : Int) (a0_3 : Int) (a0_4 : Int) (a0_5 : Int) : Option (Bool × Int × Int × Int × Int × Bool × Int × Int × Int × Int) := if a0_1 > 100 then (maquettelaw07_Rule_Clause.j0 k a0_0 a0_1 a0_2 a0_3 a0_4 a0_5 ((Int.tmod a0_0 3) == 0) 0 0 0 (Int.tmod a0_2 16) ((Int.tmod a0_3 4) == 3) ((Int.tdiv a0_3 16) % 256) ((Int.tdiv a0_4 16) % 256) (wrap64 (Int.tmod a0_4 4)) (wrap64 (a0_5))) else (maquettelaw07_Rule_Clause.j0 k a0_0 a0_1 a0_2 a0_3 a0_4 a0_5 ((Int.tmod a0_0 3) == 0) 0 0 (Int.tmod a0_1 16) (Int.tmod a0_2 16) ((Int.tmod a0_3 4) == 3) ((Int.tdiv a0_3 16) % 256) ((Int.tdiv a0_4 16) % 256) (wrap64 (Int.tmod a0_4 4)) (wrap64 (a0_5)))
theorem maquettelaw07_Rule_Clause.mono_l : ∀ k, (∀ y0 y1 y2 y3 y4 y5 y6 y7 y8 y9 y10 y11 y12 y13 y14 y15, LeO (maquettelaw07_Rule_Clause.j0 k y0 y1 y2 y3 y4 y5 y6 y7 y8 y9 y10 y11 y12 y13 y14 y15) (maquettelaw07_Rule_Clause.j0 (k + 1) y0 y1 y2 y3 y4 y5 y6 y7 y8 y9 y10 y11 y12 y13 y14 y15)) ∧ (∀ y0 y1 y2 y3 y4 y5 y6 y7 y8 y9 y10 y11 y12 y13 y14 y15, LeO (maquettelaw07_Rule_Clause.j1 k y0 y1 y2 y3 y4 y5 y6 y7 y8 y9 y10 y11 y12 y13 y14 y15) (maquettelaw07_Rule_Clause.j1 (k + 1) y0 y1 y2 y3 y4 y5 y6 y7 y8 y9 y10 y11 y12 y13 y14 y15))
 | 0 => ⟨fun _ _ _ _ _ _ _ _ _ _ _ _ _ _ _ _ r h => by simp [maquettelaw07_Rule_Clause.j0] at h, fun _ _ _ _ _ _ _ _ _ _ _ _ _ _ _ _ r h => by simp [maquettelaw07_Rule_Clause.j1] at h⟩
 | k + 1 => by
  obtain ⟨ih0, ih1⟩ := maquettelaw07_Rule_Clause.mono_l k
  refine ⟨?_, ?_⟩<;> intros <;> (first | unfold maquettelaw07_Rule_Clause.j0 | unfold maquettelaw07_Rule_Clause.j1) <;> repeat' first
   | (with_reducible exact ih0 _ _ _ _ _ _ _ _ _ _ _ _ _ _ _ _)
   | (with_reducible exact ih1 _ _ _ _ _ _ _ _ _ _ _ _ _ _ _ _)
   | (with_reducible exact maquettelaw05_Make.mono _ _)
   | (with_reducible exact LeO.refl _)
   | (with_reducible exact LeO.none _)
   | (with_reducible refine LeO.ite ?_ ?_)
   | (with_reducible refine LeO.bind ?_ (fun _ => ?_))
   | exact ih0 _ _ _ _ _ _ _ _ _ _ _ _ _ _ _ _
   | exact ih1 _ _ _ _ _ _ _ _ _ _ _ _ _ _ _ _
   | exact maquettelaw05_Make.mono _ _
   | exact LeO.none _
   | refine LeO.ite ?_ ?_
   | refine LeO.bind ?_ (fun _ => ?_)
theorem maquettelaw07_Rule_Clause.mono : ∀ a0 a1 a2 a3 a4 a5 k, LeO (maquettelaw07_Rule_Clause.f k a0 a1 a2 a3 a4 a5) (maquettelaw07_Rule_Clause.f (k + 1) a0 a1 a2 a3 a4 a5) := by
 intro a0 a1 a2 a3 a4 a5 k; obtain ⟨ih0, ih1⟩ := maquettelaw07_Rule_Clause.mono_l k; unfold maquettelaw07_Rule_Clause.f
 repeat' first
   | (with_reducible exact ih0 _ _ _ _ _ _ _ _ _ _ _ _ _ _ _ _)
   | (with_reducible exact ih1 _ _ _ _ _ _ _ _ _ _ _ _ _ _ _ _)
   | (with_reducible exact maquettelaw05_Make.mono _ _)
   | (with_reducible exact LeO.refl _)
   | (with_reducible exact LeO.none _)
   | (with_reducible refine LeO.ite ?_ ?_)
   | (with_reducible refine LeO.bind ?_ (fun _ => ?_))
   | exact ih0 _ _ _ _ _ _ _ _ _ _ _ _ _ _ _ _
   | exact ih1 _ _ _ _ _ _ _ _ _ _ _ _ _ _ _ _
   | exact maquettelaw05_Make.mono _ _
   | exact LeO.none _
   | refine LeO.ite ?_ ?_
   | refine LeO.bind ?_ (fun _ => ?_)
set_option maxHeartbeats 8000000 in
set_option maxRecDepth 100000 in
theorem maquettelaw07_Rule_Clause.calls (k : Nat) (a0_0 : Int) (a0_1 : Int) (a0_2 : Int) (a0_3 : Int) (a0_4 : Int) (a0_5 : Int) (r1 : Bool) (r2 : Int) (r3 : Int) (r4 : Int) (r5 : Int) (r6 : Bool) (r7 : Int) (r8 : Int) (r9 : Int) (r10 : Int) (w : World) (h : maquettelaw07_Rule_Clause.f k a0_0 a0_1 a0_2 a0_3 a0_4 a0_5 = some (r1, r2, r3, r4, r5, r6, r7, r8, r9, r10)) :
  Calls Try.prog 26 #[.agg #[.int .u8 a0_0, .int .u8 a0_1, .int .u8 a0_2, .int .u8 a0_3, .int .u8 a0_4, .int .u8 a0_5]] w fun e w' => e = .returned (.agg #[.bool r1, .int .u32 r2, .int .i64 r3, .int .u8 r4, .int .u8 r5, .bool r6, .int .u8 r7, .int .u8 r8, .int .i64 r9, .int .i64 r10]) ∧ Below w.heap.size w w' := by
 have hu79 := Try.underlying79; have hu81 := Try.underlying81; have hu36 := Try.underlying36; have HB := A_ (Below.refl w.heap.size w); unfold maquettelaw07_Rule_Clause.f at h; have H := h; clear h; have HC2 := A_ H; clear H; go_enter Try.func26, Try.ntmps26; go_upto_if 34 with (first | ((with_reducible refine gate_dst (N := 1) rfl ?_); refine bx 1 (cs := #[.int .u8 a0_0, .int .u8 a0_1, .int .u8 a0_2, .int .u8 a0_3, .int .u8 a0_4, .int .u8 a0_5]) (t := 79) (h := ?_); intro gb137 hg w3 hbox hb; have BK137 := A_ hbox; have GW137 : Aside0 (w.heap.size ≤ gb137) := bge hg; replace HB := bst hb; clear hb hbox hg) | ((with_reducible refine gate_dst (N := 2) rfl ?_); refine bx 2 (cs := #[.bool false, .int .u32 0, .int .i64 0, .int .u8 0, .int .u8 0, .bool false, .int .u8 0, .int .u8 0, .int .i64 0, .int .i64 0]) (t := 81) (h := ?_); intro gb138 hg w4 hbox hb; have BK138 := A_ hbox; have GW138 : Aside0 (w.heap.size ≤ gb138) := bge hg; have NB137_138 := bne BK137 hg; have NB138_137 := bnf BK137 hg; replace BK137 := bkb BK137 hb; replace HB := bst hb; clear hb hbox hg; have hnb5 := NB137_138.out; have hnc5 := NB138_137.out; have hcz6 := bc6 BK137) | ((with_reducible refine gate_dst (N := 3) rfl ?_); refine bx 3 (cs := #[.bool false, .int .u32 0, .int .i64 0, .int .u8 0, .int .u8 0, .bool false, .int .u8 0, .int .u8 0, .int .i64 0, .int .i64 0]) (t := 81) (h := ?_); intro gb139 hg w7 hbox hb; have BK139 := A_ hbox; have GW139 : Aside0 (w.heap.size ≤ gb139) := bge hg; have NB137_139 := bne BK137 hg; have NB139_137 := bnf BK137 hg; have NB138_139 := bne BK138 hg; have NB139_138 := bnf BK138 hg; replace BK137 := bkb BK137 hb; replace BK138 := bkb BK138 hb; replace HB := bst hb; clear hb hbox hg; have hnb8 := NB139_137.out; have hnc8 := NB137_139.out; have hnb9 := NB139_138.out; have hnc9 := NB138_139.out; have hcz10 := bc10 BK139; have hcz11 := bc6 BK137)); (try simp only [Act.put, List.setIfInBounds_toArray, List.set_cons_zero, List.set_cons_succ])
 go_cut [] (fun wc => ∃ (kq : Nat) (x140003_1 : Int), Aside0 (maquettelaw07_Rule_Clause.j0 kq a0_0 a0_1 a0_2 a0_3 a0_4 a0_5 ((Int.tmod a0_0 3) == 0) 0 0 x140003_1 (Int.tmod a0_2 16) ((Int.tmod a0_3 4) == 3) ((Int.tdiv a0_3 16) % 256) ((Int.tdiv a0_4 16) % 256) (wrap64 (Int.tmod a0_4 4)) (wrap64 (a0_5)) = some (r1, r2, r3, r4, r5, r6, r7, r8, r9, r10)) ∧ Aside0 (kq ≤ k) ∧ Aside0 (wc.heap[gb137]? = some (.cells #[.int .u8 a0_0, .int .u8 a0_1, .int .u8 a0_2, .int .u8 a0_3, .int .u8 a0_4, .int .u8 a0_5] 79 (0, 0))) ∧ Aside0 (wc.heap[gb138]? = some (.cells #[.bool false, .int .u32 0, .int .i64 0, .int .u8 0, .int .u8 0, .bool false, .int .u8 0, .int .u8 0, .int .i64 0, .int .i64 0] 81 (0, 0))) ∧ Aside0 (wc.heap[gb139]? = some (.cells #[.bool ((Int.tmod a0_0 3) == 0), .int .u32 0, .int .i64 0, .int .u8 x140003_1, .int .u8 (Int.tmod a0_2 16), .bool ((Int.tmod a0_3 4) == 3), .int .u8 ((Int.tdiv a0_3 16) % 256), .int .u8 ((Int.tdiv a0_4 16) % 256), .int .i64 (wrap64 (Int.tmod a0_4 4)), .int .i64 (wrap64 (a0_5))] 81 (0, 0))) ∧ Aside0 (Below w.heap.size w wc))
 case first =>
  have H := HC2.out; clear HC2; by_cases c12 : a0_1 > 100
  ·rw [if_pos c12] at H
   have c12b0 : decide (100 < a0_1) = true := decide_eq_true c12; clear c12; (first | rw [c12b0] | (simp only [i64_w, i32_w]; rw [c12b0]) | skip); have H' := A_ H; clear H; have hnb13 := NB139_137.out; have hnc13 := NB137_139.out; have hnb14 := NB139_138.out; have hnc14 := NB138_139.out; have hcz15 := bc10 BK139; go_wp2; go_meet
   case rel => exact ⟨_, (0), H', ⟨by first | omega | exact Nat.le_refl _⟩, ⟨bkq BK137⟩, ⟨bkq BK138⟩, ⟨bkp BK139⟩, ⟨bel⟩⟩
  ·rw [if_neg c12] at H
   have c12b0 : decide (100 < a0_1) = false := decide_eq_false c12; clear c12; (first | rw [c12b0] | (simp only [i64_w, i32_w]; rw [c12b0]) | skip); have H' := A_ H; clear H; go_wp2; go_meet
   case rel => exact ⟨_, (Int.tmod a0_1 16), H', ⟨by first | omega | exact Nat.le_refl _⟩, ⟨bkq BK137⟩, ⟨bkq BK138⟩, ⟨bkp BK139⟩, ⟨bel⟩⟩
 case rest =>
  clear HC2; (try clear c1); (try clear c2); (try clear p2); (try clear c5); (try clear p6); (try clear c8); (try clear c9); (try clear c12); (try clear c12b0); (try clear c13); (try clear c14); (try clear hcz10); (try clear hcz11); (try clear hcz15); (try clear hcz6); obtain ⟨kq, x140003_1, HA, HJ1, BK137, BK138, BK139, HB⟩ := hcut
  cases kq with
  | zero => exact absurd HA.out (by simp [maquettelaw07_Rule_Clause.j0])
  | succ kj1 =>
   have H := HA.out; clear HA; simp only [maquettelaw07_Rule_Clause.j0] at H; have HC16 := A_ H; clear H; have hnb17 := NB137_138.out; have hnc17 := NB138_137.out; have hnb18 := NB137_139.out; have hnc18 := NB139_137.out; have hcz19 := bc6 BK137; go_upto_if 38 with (fail); go_cut [] (fun wc => ∃ (kq : Nat) (x140004_15 : Int), Aside0 (maquettelaw07_Rule_Clause.j1 kq a0_0 a0_1 a0_2 a0_3 a0_4 a0_5 ((Int.tmod a0_0 3) == 0) 0 0 x140003_1 x140004_15 ((Int.tmod a0_3 4) == 3) ((Int.tdiv a0_3 16) % 256) ((Int.tdiv a0_4 16) % 256) (wrap64 (Int.tmod a0_4 4)) (wrap64 (a0_5)) = some (r1, r2, r3, r4, r5, r6, r7, r8, r9, r10)) ∧ Aside0 (kq ≤ kj1) ∧ Aside0 (wc.heap[gb137]? = some (.cells #[.int .u8 a0_0, .int .u8 a0_1, .int .u8 a0_2, .int .u8 a0_3, .int .u8 a0_4, .int .u8 a0_5] 79 (0, 0))) ∧ Aside0 (wc.heap[gb138]? = some (.cells #[.bool false, .int .u32 0, .int .i64 0, .int .u8 0, .int .u8 0, .bool false, .int .u8 0, .int .u8 0, .int .i64 0, .int .i64 0] 81 (0, 0))) ∧ Aside0 (wc.heap[gb139]? = some (.cells #[.bool ((Int.tmod a0_0 3) == 0), .int .u32 0, .int .i64 0, .int .u8 x140003_1, .int .u8 x140004_15, .bool ((Int.tmod a0_3 4) == 3), .int .u8 ((Int.tdiv a0_3 16) % 256), .int .u8 ((Int.tdiv a0_4 16) % 256), .int .i64 (wrap64 (Int.tmod a0_4 4)), .int .i64 (wrap64 (a0_5))] 81 (0, 0))) ∧ Aside0 (Below w.heap.size w wc))
   case first =>
    have H := HC16.out; clear HC16; by_cases c20 : a0_2 > 60
    ·rw [if_pos c20] at H
     have c20b0 : decide (60 < a0_2) = true := decide_eq_true c20; clear c20; (first | rw [c20b0] | (simp only [i64_w, i32_w]; rw [c20b0]) | skip); have H' := A_ H; clear H; have hnb21 := NB139_137.out; have hnc21 := NB137_139.out; have hnb22 := NB139_138.out; have hnc22 := NB138_139.out; have hcz23 := bc10 BK139; go_wp2; go_meet
     case rel => exact ⟨_, (0), H', ⟨by have := HJ1.out; first | omega | exact Nat.le_refl _⟩, ⟨bkq BK137⟩, ⟨bkq BK138⟩, ⟨bkp BK139⟩, ⟨bel⟩⟩
    ·rw [if_neg c20] at H
     have c20b0 : decide (60 < a0_2) = false := decide_eq_false c20; clear c20; (first | rw [c20b0] | (simp only [i64_w, i32_w]; rw [c20b0]) | skip); have H' := A_ H; clear H; go_wp2; go_meet
     case rel => exact ⟨_, ((Int.tmod a0_2 16)), H', ⟨by have := HJ1.out; first | omega | exact Nat.le_refl _⟩, ⟨bkq BK137⟩, ⟨bkq BK138⟩, ⟨bkq BK139⟩, ⟨bel⟩⟩
   case rest =>
    clear HC16; (try clear c1); (try clear c2); (try clear p2 p2); (try clear c5); (try clear p6 p6); (try clear c8); (try clear c9); (try clear c12); (try clear c12b0); (try clear c13); (try clear c14); (try clear c17); (try clear c18); (try clear c20); (try clear c20b0); (try clear c21); (try clear c22); (try clear hcz10); (try clear hcz11); (try clear hcz15); (try clear hcz19); (try clear hcz23); (try clear hcz6); obtain ⟨kq, x140004_15, HA, HJ15, BK137, BK138, BK139, HB⟩ := hcut
    cases kq with
    | zero => exact absurd HA.out (by simp [maquettelaw07_Rule_Clause.j1])
    | succ kj15 =>
     have H := HA.out; clear HA; simp only [maquettelaw07_Rule_Clause.j1] at H; by_cases c24 : a0_5 < 200
     ·rw [if_pos c24] at H
      have c24b0 := decide_eq_true c24; clear c24; by_cases c25 : ((Int.tmod a0_0 3) == 0) = true
      ·rw [if_pos c25] at H
       have c25b0 : ((Int.tmod a0_0 3) == 0) = true := c25; (try (have c25b1 : decide ((Int.tmod a0_0 3) = 0) = true := by simpa using c25)); (try (have c25b2 : ((Int.tmod a0_0 3) == 0) = true := by simpa using c25)); clear c25; simp only [Option.some.injEq, Prod.mk.injEq] at H; obtain ⟨rfl, rfl, rfl, rfl, rfl, rfl, rfl, rfl, rfl, rfl⟩ := H; have hnb26 := NB137_138.out; have hnc26 := NB138_137.out; have hnb27 := NB137_139.out; have hnc27 := NB139_137.out; have hcz28 := bc6 BK137; have hnb29 := NB139_138.out; have hnc29 := NB138_139.out; have hcz30 := bc10 BK139; have hcz31 := bc10 BK138; go_wp2; refine bodyPost_ret (results_cell_row rfl _ _ gb138 81 #[.bool ((Int.tmod a0_0 3) == 0), .int .u32 0, .int .i64 0, .int .u8 x140003_1, .int .u8 x140004_15, .bool ((Int.tmod a0_3 4) == 3), .int .u8 ((Int.tdiv a0_3 16) % 256), .int .u8 ((Int.tdiv a0_4 16) % 256), .int .i64 (wrap64 (Int.tmod a0_4 4)), .int .i64 0] (0, 0) _ rfl (bkp BK138) Try.underlying81 rfl (by kernel_rfl)) rfl ?_; exact ⟨eqd, bel⟩
      ·rw [if_neg c25] at H
       (have c25b0 : ((Int.tmod a0_0 3) == 0) = false := by simpa using c25); (try (have c25b1 : decide ((Int.tmod a0_0 3) = 0) = false := by simpa using c25)); (try (have c25b2 : ((Int.tmod a0_0 3) == 0) = false := by simpa using c25)); (try (have c25b3 : ¬ ((Int.tmod a0_0 3) = 0) := by simpa using c25)); clear c25; replace H := Option.bind_eq_some_iff.mp H; obtain ⟨⟨t140, t141⟩, A320, H⟩ := H; dsimp only at H; have A32 := A_ A320; clear A320; simp only [Option.some.injEq, Prod.mk.injEq] at H; obtain ⟨rfl, rfl, rfl, rfl, rfl, rfl, rfl, rfl, rfl, rfl⟩ := H; have hnb33 := NB137_138.out; have hnc33 := NB138_137.out; have hnb34 := NB137_139.out; have hnc34 := NB139_137.out; have hcz35 := bc6 BK137; have hnb36 := NB139_138.out; have hnc36 := NB138_139.out; have hcz37 := bc10 BK139; go_wp2_with (first | ((with_reducible refine gate_dst (N := 49) rfl ?_); refine gl (some 49) Try.func7 #[.int .u8 a0_0] ?_; (with_reducible refine (maquettelaw05_Make.calls kj15 a0_0 t140 t141 _ A32.out).mono ?_); rintro e w38 ⟨rfl, hb⟩; refine ⟨_, rfl, ?_⟩; replace BK137 := bkb BK137 hb; replace BK138 := bkb BK138 hb; replace BK139 := A_ (blk_below (g := gb139) (o := .cells #[.bool ((Int.tmod a0_0 3) == 0), .int .u32 0, .int .i64 0, .int .u8 x140003_1, .int .u8 x140004_15, .bool ((Int.tmod a0_3 4) == 3), .int .u8 ((Int.tdiv a0_3 16) % 256), .int .u8 ((Int.tdiv a0_4 16) % 256), .int .i64 (wrap64 (Int.tmod a0_4 4)), .int .i64 0] 81 (0, 0)) (bkp BK139) hb); replace HB := bst hb; (try clear hb); have hcz39 := bc10 BK139; have hcz40 := bc10 BK138)); refine bodyPost_ret (results_cell_row rfl _ _ gb138 81 #[.bool ((Int.tmod a0_0 3) == 0), .int .u32 t140, .int .i64 t141, .int .u8 x140003_1, .int .u8 x140004_15, .bool ((Int.tmod a0_3 4) == 3), .int .u8 ((Int.tdiv a0_3 16) % 256), .int .u8 ((Int.tdiv a0_4 16) % 256), .int .i64 (wrap64 (Int.tmod a0_4 4)), .int .i64 0] (0, 0) _ rfl (bkp BK138) Try.underlying81 rfl (by kernel_rfl)) rfl ?_; exact ⟨eqd, bel⟩
     ·rw [if_neg c24] at H
      have c24b0 := decide_eq_false c24; clear c24; by_cases c41 : ((Int.tmod a0_0 3) == 0) = true
      ·rw [if_pos c41] at H
       have c41b0 : ((Int.tmod a0_0 3) == 0) = true := c41; (try (have c41b1 : decide ((Int.tmod a0_0 3) = 0) = true := by simpa using c41)); (try (have c41b2 : ((Int.tmod a0_0 3) == 0) = true := by simpa using c41)); clear c41; simp only [Option.some.injEq, Prod.mk.injEq] at H; obtain ⟨rfl, rfl, rfl, rfl, rfl, rfl, rfl, rfl, rfl, rfl⟩ := H; have hnb42 := NB137_138.out; have hnc42 := NB138_137.out; have hnb43 := NB137_139.out; have hnc43 := NB139_137.out; have hcz44 := bc6 BK137; have hnb45 := NB139_138.out; have hnc45 := NB138_139.out; have hcz46 := bc10 BK139; have hcz47 := bc10 BK138; go_wp2; refine bodyPost_ret (results_cell_row rfl _ _ gb138 81 #[.bool ((Int.tmod a0_0 3) == 0), .int .u32 0, .int .i64 0, .int .u8 x140003_1, .int .u8 x140004_15, .bool ((Int.tmod a0_3 4) == 3), .int .u8 ((Int.tdiv a0_3 16) % 256), .int .u8 ((Int.tdiv a0_4 16) % 256), .int .i64 (wrap64 (Int.tmod a0_4 4)), .int .i64 (wrap64 (a0_5))] (0, 0) _ rfl (bkp BK138) Try.underlying81 rfl (by kernel_rfl)) rfl ?_; exact ⟨eqd, bel⟩
      ·rw [if_neg c41] at H
       (have c41b0 : ((Int.tmod a0_0 3) == 0) = false := by simpa using c41); (try (have c41b1 : decide ((Int.tmod a0_0 3) = 0) = false := by simpa using c41)); (try (have c41b2 : ((Int.tmod a0_0 3) == 0) = false := by simpa using c41)); (try (have c41b3 : ¬ ((Int.tmod a0_0 3) = 0) := by simpa using c41)); clear c41; replace H := Option.bind_eq_some_iff.mp H; obtain ⟨⟨t142, t143⟩, A480, H⟩ := H; dsimp only at H; have A48 := A_ A480; clear A480; simp only [Option.some.injEq, Prod.mk.injEq] at H; obtain ⟨rfl, rfl, rfl, rfl, rfl, rfl, rfl, rfl, rfl, rfl⟩ := H; have hnb49 := NB137_138.out; have hnc49 := NB138_137.out; have hnb50 := NB137_139.out; have hnc50 := NB139_137.out; have hcz51 := bc6 BK137; have hnb52 := NB139_138.out; have hnc52 := NB138_139.out; have hcz53 := bc10 BK139; go_wp2_with (first | ((with_reducible refine gate_dst (N := 49) rfl ?_); refine gl (some 49) Try.func7 #[.int .u8 a0_0] ?_; (with_reducible refine (maquettelaw05_Make.calls kj15 a0_0 t142 t143 _ A48.out).mono ?_); rintro e w54 ⟨rfl, hb⟩; refine ⟨_, rfl, ?_⟩; replace BK137 := bkb BK137 hb; replace BK138 := bkb BK138 hb; replace BK139 := bkb BK139 hb; replace HB := bst hb; (try clear hb); have hcz55 := bc10 BK139; have hcz56 := bc10 BK138)); refine bodyPost_ret (results_cell_row rfl _ _ gb138 81 #[.bool ((Int.tmod a0_0 3) == 0), .int .u32 t142, .int .i64 t143, .int .u8 x140003_1, .int .u8 x140004_15, .bool ((Int.tmod a0_3 4) == 3), .int .u8 ((Int.tdiv a0_3 16) % 256), .int .u8 ((Int.tdiv a0_4 16) % 256), .int .i64 (wrap64 (Int.tmod a0_4 4)), .int .i64 (wrap64 (a0_5))] (0, 0) _ rfl (bkp BK138) Try.underlying81 rfl (by kernel_rfl)) rfl ?_; exact ⟨eqd, bel⟩
end Go.Proofs.Ytnhdfjcecgjlgaa.PNt
