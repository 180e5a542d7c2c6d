-- Written by wip/xprint.py of this work: the printer of the kit, with contracts of this work beside it, shortened.
import Derived.Test.YtkhbpjhlekldpaaShort
import Derived.Test.YtkhbpjhlekldpaaPLiftx0
import Derived.Test.YtkhbpjhlekldpaaPLiftx17
import Derived.Test.YtkhbpjhlekldpaaPLiftx18
namespace Go.Proofs.Ytkhbpjhlekldpaa.PLift
open Go.RowKit Go.Proofs.Ytkhbpjhlekldpaa.Short Go.Proofs.YtkhbpjhlekldpaaW.PrintWords Go.Proofs.YtkhbpjhlekldpaaW.PrintLast Go.Proofs.YtkhbpjhlekldpaaW.PrintMore
attribute [local go_sem] max2_int min2_int max_two min_two max_three min_three max_four min_four   -- for this text's walks alone
set_option linter.unusedVariables false
set_option linter.unusedSimpArgs false

/-! ### maquettelaw23_LiftSame: function 6 -/
mutual
def maquettelaw23_LiftSame.j0 : Nat → Bool → Bool → Bool → List Int → Bool → Bool → List Int → Option (Bool)
 | 0, _, _, _, _, _, _, _ => none
 | k + 1, x5, x233000, x233001, x233002, x234000, x234001, x234002 => maquettelaw23_LiftSame.l0 k x5 0 x233000 x233001 x233002 x234000 x234001 x234002
def maquettelaw23_LiftSame.l0 : Nat → Bool → Int → Bool → Bool → List Int → Bool → Bool → List Int → Option (Bool)
 | 0, _, _, _, _, _, _, _, _ => none
 | k + 1, x5, x6, x233000, x233001, x233002, x234000, x234001, x234002 => if x5 = true then (if x6 < (x233002.length : Int) then (if 0 ≤ x6 then (if x6 < (x234002.length : Int) then (maquettelaw23_LiftSame.l0 k ((rd x233002 x6) == (rd x234002 x6)) (wrap64 (x6 + 1)) x233000 x233001 x233002 x234000 x234001 x234002) else (none)) else (none)) else ((lift_Same.f k x233000 x233001 x233002 x234000 x234001 x234002).bind fun t238 => (if (t238 == x5) = true then ((lift_Same.f k x233000 x233001 x233002 x233000 x233001 x233002).bind fun t239 => (if t239 = true then ((lift_Same.f k x233000 x233001 x233002 x233000 (!x233001) x233002).bind fun t240 => (some (!t240))) else (some false))) else (some false)))) else ((lift_Same.f k x233000 x233001 x233002 x234000 x234001 x234002).bind fun t242 => (if (t242 == x5) = true then ((lift_Same.f k x233000 x233001 x233002 x233000 x233001 x233002).bind fun t243 => (if t243 = true then ((lift_Same.f k x233000 x233001 x233002 x233000 (!x233001) x233002).bind fun t244 => (some (!t244))) else (some false))) else (some false)))
end
def maquettelaw23_LiftSame.f (k : Nat) (a0_0 : Bool) (a0_1 : Bool) (l0_2 : List Int) (a1_0 : Bool) (a1_1 : Bool) (l1_2 : List Int) : Option (Bool) := (maquettelaw23_awake.f k).bind fun t234 => (if t234 = true then (if (a0_0 == a1_0) = true then (if (a0_1 == a1_1) = true then (maquettelaw23_LiftSame.j0 k ((l0_2.length : Int) == (l1_2.length : Int)) a0_0 a0_1 l0_2 a1_0 a1_1 l1_2) else (maquettelaw23_LiftSame.j0 k false a0_0 a0_1 l0_2 a1_0 a1_1 l1_2)) else (maquettelaw23_LiftSame.j0 k false a0_0 a0_1 l0_2 a1_0 a1_1 l1_2)) else (some false))
theorem maquettelaw23_LiftSame.mono_l : ∀ k, (∀ y0 y1 y2 y3 y4 y5 y6, LeO (maquettelaw23_LiftSame.j0 k y0 y1 y2 y3 y4 y5 y6) (maquettelaw23_LiftSame.j0 (k + 1) y0 y1 y2 y3 y4 y5 y6)) ∧ (∀ y0 y1 y2 y3 y4 y5 y6 y7, LeO (maquettelaw23_LiftSame.l0 k y0 y1 y2 y3 y4 y5 y6 y7) (maquettelaw23_LiftSame.l0 (k + 1) y0 y1 y2 y3 y4 y5 y6 y7))
 | 0 => ⟨fun _ _ _ _ _ _ _ r h => by simp [maquettelaw23_LiftSame.j0] at h, fun _ _ _ _ _ _ _ _ r h => by simp [maquettelaw23_LiftSame.l0] at h⟩
 | k + 1 => by
  obtain ⟨ih0, ih1⟩ := maquettelaw23_LiftSame.mono_l k
  refine ⟨?_, ?_⟩
  ·intro y0 y1 y2 y3 y4 y5 y6
   unfold maquettelaw23_LiftSame.j0
   repeat' first
   | (with_reducible exact ih0 _ _ _ _ _ _ _)
   | (with_reducible exact ih1 _ _ _ _ _ _ _ _)
   | (with_reducible exact lift_Same.mono _ _ _ _ _ _ _)
   | (with_reducible exact maquettelaw23_awake.mono _)
   | (with_reducible exact LeO.refl _)
   | (with_reducible exact LeO.none _)
   | (with_reducible refine LeO.ite ?_ ?_)
   | (with_reducible refine LeO.bind ?_ (fun _ => ?_))
   | exact ih0 _ _ _ _ _ _ _
   | exact ih1 _ _ _ _ _ _ _ _
   | exact lift_Same.mono _ _ _ _ _ _ _
   | exact maquettelaw23_awake.mono _
   | exact LeO.none _
   | refine LeO.ite ?_ ?_
   | refine LeO.bind ?_ (fun _ => ?_)
  ·intro y0 y1 y2 y3 y4 y5 y6 y7
   unfold maquettelaw23_LiftSame.l0
   repeat' first
   | (with_reducible exact ih0 _ _ _ _ _ _ _)
   | (with_reducible exact ih1 _ _ _ _ _ _ _ _)
   | (with_reducible exact lift_Same.mono _ _ _ _ _ _ _)
   | (with_reducible exact maquettelaw23_awake.mono _)
   | (with_reducible exact LeO.refl _)
   | (with_reducible exact LeO.none _)
   | (with_reducible refine LeO.ite ?_ ?_)
   | (with_reducible refine LeO.bind ?_ (fun _ => ?_))
   | exact ih0 _ _ _ _ _ _ _
   | exact ih1 _ _ _ _ _ _ _ _
   | exact lift_Same.mono _ _ _ _ _ _ _
   | exact maquettelaw23_awake.mono _
   | exact LeO.none _
   | refine LeO.ite ?_ ?_
   | refine LeO.bind ?_ (fun _ => ?_)
theorem maquettelaw23_LiftSame.mono : ∀ a0 a1 a2 a3 a4 a5 k, LeO (maquettelaw23_LiftSame.f k a0 a1 a2 a3 a4 a5) (maquettelaw23_LiftSame.f (k + 1) a0 a1 a2 a3 a4 a5) := by
 intro a0 a1 a2 a3 a4 a5 k
 obtain ⟨ih0, ih1⟩ := maquettelaw23_LiftSame.mono_l k
 unfold maquettelaw23_LiftSame.f
 repeat' first
   | (with_reducible exact ih0 _ _ _ _ _ _ _)
   | (with_reducible exact ih1 _ _ _ _ _ _ _ _)
   | (with_reducible exact lift_Same.mono _ _ _ _ _ _ _)
   | (with_reducible exact maquettelaw23_awake.mono _)
   | (with_reducible exact LeO.refl _)
   | (with_reducible exact LeO.none _)
   | (with_reducible refine LeO.ite ?_ ?_)
   | (with_reducible refine LeO.bind ?_ (fun _ => ?_))
   | exact ih0 _ _ _ _ _ _ _
   | exact ih1 _ _ _ _ _ _ _ _
   | exact lift_Same.mono _ _ _ _ _ _ _
   | exact maquettelaw23_awake.mono _
   | exact LeO.none _
   | refine LeO.ite ?_ ?_
   | refine LeO.bind ?_ (fun _ => ?_)
set_option maxHeartbeats 8000000 in
set_option maxRecDepth 100000 in
theorem maquettelaw23_LiftSame.calls (k : Nat) (a0_0 : Bool) (a0_1 : Bool) (A0_2 : Option Addr) (c0_2 : Nat) (l0_2 : List Int) (a1_0 : Bool) (a1_1 : Bool) (A1_2 : Option Addr) (c1_2 : Nat) (l1_2 : List Int) (r : Bool) (w : World) (hr0_2 : Kd.C (Kd.int .i64) w A0_2 l0_2.length l0_2) (hc0_2 : l0_2.length ≤ c0_2) (hr1_2 : Kd.C (Kd.int .i64) w A1_2 l1_2.length l1_2) (hc1_2 : l1_2.length ≤ c1_2) (h : maquettelaw23_LiftSame.f k a0_0 a0_1 l0_2 a1_0 a1_1 l1_2 = some r) :
  Calls Try.prog 6 #[.agg #[.bool a0_0, .bool a0_1, .slice A0_2 l0_2.length c0_2], .agg #[.bool a1_0, .bool a1_1, .slice A1_2 l1_2.length c1_2]] w fun e w' => e = .returned (.bool r) ∧ Below w.heap.size w w' := by
 have hu64 := Try.underlying64
 have HR0_2 := Aside0.mk hr0_2
 have HC0_2 := Aside0.mk hc0_2
 clear hr0_2 hc0_2
 have HR1_2 := Aside0.mk hr1_2
 have HC1_2 := Aside0.mk hc1_2
 clear hr1_2 hc1_2
 have HB := Aside0.mk (Below.refl w.heap.size w)
 have H : ((maquettelaw23_awake.f k).bind fun t234 => (if t234 = true then (if (a0_0 == a1_0) = true then (if (a0_1 == a1_1) = true then (maquettelaw23_LiftSame.j0 k ((l0_2.length : Int) == (l1_2.length : Int)) a0_0 a0_1 l0_2 a1_0 a1_1 l1_2) else (maquettelaw23_LiftSame.j0 k false a0_0 a0_1 l0_2 a1_0 a1_1 l1_2)) else (maquettelaw23_LiftSame.j0 k false a0_0 a0_1 l0_2 a1_0 a1_1 l1_2)) else (some false))) = some r := h
 clear h
 replace H := Option.bind_eq_some_iff.mp H
 obtain ⟨t234, A30, H⟩ := H
 replace H : (if t234 = true then (if (a0_0 == a1_0) = true then (if (a0_1 == a1_1) = true then (maquettelaw23_LiftSame.j0 k ((l0_2.length : Int) == (l1_2.length : Int)) a0_0 a0_1 l0_2 a1_0 a1_1 l1_2) else (maquettelaw23_LiftSame.j0 k false a0_0 a0_1 l0_2 a1_0 a1_1 l1_2)) else (maquettelaw23_LiftSame.j0 k false a0_0 a0_1 l0_2 a1_0 a1_1 l1_2)) else (some false)) = some r := H
 have A3 := Aside0.mk A30
 clear A30
 by_cases c4 : t234 = true
 ·subst c4
  have H1 : (if (a0_0 == a1_0) = true then (if (a0_1 == a1_1) = true then (maquettelaw23_LiftSame.j0 k ((l0_2.length : Int) == (l1_2.length : Int)) a0_0 a0_1 l0_2 a1_0 a1_1 l1_2) else (maquettelaw23_LiftSame.j0 k false a0_0 a0_1 l0_2 a1_0 a1_1 l1_2)) else (maquettelaw23_LiftSame.j0 k false a0_0 a0_1 l0_2 a1_0 a1_1 l1_2)) = some r := by rw [if_pos rfl] at H; exact H
  clear H
  have H := H1
  clear H1
  have HC5 := Aside0.mk H
  clear H
  go_enter Try.func6, Try.ntmps6
  go_upto_region 3 with (first | ((with_reducible refine gate_dst (N := 2) rfl ?_); (try (refine gate_guard (by rfl) ?_; dsimp only)); refine bx 2 (cs := #[.bool a0_0, .bool a0_1, .slice A0_2 l0_2.length c0_2]) (t := 64) (h := ?_); intro gb232 hg w6 hbox hb; have BK232 := Aside0.mk hbox; have GW232 : Aside0 (w.heap.size ≤ gb232) := bge hg; have GE232 : Aside0 (w.heap.size ≤ gb232) := bge hg; replace HB := bst hb; clear hb hbox hg) | ((with_reducible refine gate_dst (N := 3) rfl ?_); (try (refine gate_guard (by rfl) ?_; dsimp only)); refine bx 3 (cs := #[.bool a1_0, .bool a1_1, .slice A1_2 l1_2.length c1_2]) (t := 64) (h := ?_); intro gb233 hg w7 hbox hb; have BK233 := Aside0.mk hbox; have GW233 : Aside0 (w.heap.size ≤ gb233) := bge hg; have GE233 : Aside0 (w.heap.size ≤ gb233) := bge hg; have NB232_233 := bne BK232 hg; have NB233_232 := bnf BK232 hg; replace BK232 := bkb BK232 hb; replace HB := bst hb; clear hb hbox hg) | (go_at_call 20; (with_reducible refine (maquettelaw23_awake.calls k  true _ A3.out).mono ?_); rintro e w8 ⟨rfl, hb⟩; replace BK232 := bkb BK232 hb; replace BK233 := bkb BK233 hb; replace HB := bst hb; (try clear hb); (try clear hb2); (try clear hk); (try clear hi)))
  repeat (go_quiet (first | ((with_reducible refine gate_dst (N := 2) rfl ?_); (try (refine gate_guard (by rfl) ?_; dsimp only)); refine bx 2 (cs := #[.bool a0_0, .bool a0_1, .slice A0_2 l0_2.length c0_2]) (t := 64) (h := ?_); intro gb232 hg w6 hbox hb; have BK232 := Aside0.mk hbox; have GW232 : Aside0 (w.heap.size ≤ gb232) := bge hg; have GE232 : Aside0 (w.heap.size ≤ gb232) := bge hg; replace HB := bst hb; clear hb hbox hg) | ((with_reducible refine gate_dst (N := 3) rfl ?_); (try (refine gate_guard (by rfl) ?_; dsimp only)); refine bx 3 (cs := #[.bool a1_0, .bool a1_1, .slice A1_2 l1_2.length c1_2]) (t := 64) (h := ?_); intro gb233 hg w7 hbox hb; have BK233 := Aside0.mk hbox; have GW233 : Aside0 (w.heap.size ≤ gb233) := bge hg; have GE233 : Aside0 (w.heap.size ≤ gb233) := bge hg; have NB232_233 := bne BK232 hg; have NB233_232 := bnf BK232 hg; replace BK232 := bkb BK232 hb; replace HB := bst hb; clear hb hbox hg) | (go_at_call 20; (with_reducible refine (maquettelaw23_awake.calls k  true _ A3.out).mono ?_); rintro e w8 ⟨rfl, hb⟩; replace BK232 := bkb BK232 hb; replace BK233 := bkb BK233 hb; replace HB := bst hb; (try clear hb); (try clear hb2); (try clear hk); (try clear hi))); go_upto_region 3 with (first | ((with_reducible refine gate_dst (N := 2) rfl ?_); (try (refine gate_guard (by rfl) ?_; dsimp only)); refine bx 2 (cs := #[.bool a0_0, .bool a0_1, .slice A0_2 l0_2.length c0_2]) (t := 64) (h := ?_); intro gb232 hg w6 hbox hb; have BK232 := Aside0.mk hbox; have GW232 : Aside0 (w.heap.size ≤ gb232) := bge hg; have GE232 : Aside0 (w.heap.size ≤ gb232) := bge hg; replace HB := bst hb; clear hb hbox hg) | ((with_reducible refine gate_dst (N := 3) rfl ?_); (try (refine gate_guard (by rfl) ?_; dsimp only)); refine bx 3 (cs := #[.bool a1_0, .bool a1_1, .slice A1_2 l1_2.length c1_2]) (t := 64) (h := ?_); intro gb233 hg w7 hbox hb; have BK233 := Aside0.mk hbox; have GW233 : Aside0 (w.heap.size ≤ gb233) := bge hg; have GE233 : Aside0 (w.heap.size ≤ gb233) := bge hg; have NB232_233 := bne BK232 hg; have NB233_232 := bnf BK232 hg; replace BK232 := bkb BK232 hb; replace HB := bst hb; clear hb hbox hg) | (go_at_call 20; (with_reducible refine (maquettelaw23_awake.calls k  true _ A3.out).mono ?_); rintro e w8 ⟨rfl, hb⟩; replace BK232 := bkb BK232 hb; replace BK233 := bkb BK233 hb; replace HB := bst hb; (try clear hb); (try clear hb2); (try clear hk); (try clear hi))))
  (try simp only [Act.put, List.setIfInBounds_toArray, List.set_cons_zero, List.set_cons_succ])
  go_cut [5] (fun v5 wc => ∃ (kq : Nat) (x5_4 : Bool), v5 = .bool x5_4 ∧ Aside0 (maquettelaw23_LiftSame.j0 kq x5_4 a0_0 a0_1 l0_2 a1_0 a1_1 l1_2 = some r) ∧ Aside0 (kq ≤ k) ∧ Aside0 (wc.heap[gb232]? = some (.cells #[.bool a0_0, .bool a0_1, (.slice A0_2 l0_2.length c0_2)] 64 (0, 0))) ∧ Aside0 (wc.heap[gb233]? = some (.cells #[.bool a1_0, .bool a1_1, (.slice A1_2 l1_2.length c1_2)] 64 (0, 0))) ∧ Aside0 (Below w.heap.size w wc))
  case first =>
   have H := HC5.out
   clear HC5
   by_cases c9 : (a0_0 == a1_0) = true
   ·rw [if_pos c9] at H
    have c9b0 : (a0_0 == a1_0) = true := c9
    (try (have c9b1 : decide (a0_0 = a1_0) = true := by simpa using c9))
    (try (have c9b2 : (a0_0 == a1_0) = true := by simpa using c9))
    clear c9
    (first | rw [c9b0] | (simp only [i64_w, i32_w]; rw [c9b0]) | skip)
    by_cases c10 : (a0_1 == a1_1) = true
    ·rw [if_pos c10] at H
     have c10b0 : (a0_1 == a1_1) = true := c10
     (try (have c10b1 : decide (a0_1 = a1_1) = true := by simpa using c10))
     (try (have c10b2 : (a0_1 == a1_1) = true := by simpa using c10))
     clear c10
     have H' := Aside0.mk H
     clear H
     have hnb11 := NB232_233.out
     have hnc11 := NB233_232.out
     obtain ⟨hcz12_0, hcz12_1, hcz12_2, hfz12_0, hfz12_1, hfz12_2⟩ := bc3 BK232
     obtain ⟨hcz13_0, hcz13_1, hcz13_2, hfz13_0, hfz13_1, hfz13_2⟩ := bc3 BK233
     go_wp2
     repeat (go_quiet (fail); try go_wp2)
     go_meet
     case rel => exact ⟨_, (((l0_2.length : Int) == (l1_2.length : Int))), (by first | rfl | (simp; done) | (simp [*]; done)), H', ⟨by first | omega | exact Nat.le_refl _⟩, ⟨bkq BK232⟩, ⟨bkq BK233⟩, ⟨by repeat (first | (with_reducible first | exact HB.out | apply below_alloc | apply pw_below_drewN | apply below_drew1 | refine below_set ?_ GE232.out | refine below_set ?_ GE233.out) | exact HB.out)⟩⟩
    ·rw [if_neg c10] at H
     have c10b0 : (a0_1 == a1_1) = false := by simpa using c10
     (try (have c10b1 : decide (a0_1 = a1_1) = false := by simpa using c10))
     (try (have c10b2 : (a0_1 == a1_1) = false := by simpa using c10))
     (try (have c10b3 : ¬ (a0_1 = a1_1) := by simpa using c10))
     clear c10
     have H' := Aside0.mk H
     clear H
     have hnb14 := NB232_233.out
     have hnc14 := NB233_232.out
     obtain ⟨hcz15_0, hcz15_1, hcz15_2, hfz15_0, hfz15_1, hfz15_2⟩ := bc3 BK232
     obtain ⟨hcz16_0, hcz16_1, hcz16_2, hfz16_0, hfz16_1, hfz16_2⟩ := bc3 BK233
     go_wp2
     repeat (go_quiet (fail); try go_wp2)
     go_meet
     case rel => exact ⟨_, (false), (by first | rfl | (simp; done) | (simp [*]; done)), H', ⟨by first | omega | exact Nat.le_refl _⟩, ⟨bkq BK232⟩, ⟨bkq BK233⟩, ⟨by repeat (first | (with_reducible first | exact HB.out | apply below_alloc | apply pw_below_drewN | apply below_drew1 | refine below_set ?_ GE232.out | refine below_set ?_ GE233.out) | exact HB.out)⟩⟩
   ·rw [if_neg c9] at H
    have c9b0 : (a0_0 == a1_0) = false := by simpa using c9
    (try (have c9b1 : decide (a0_0 = a1_0) = false := by simpa using c9))
    (try (have c9b2 : (a0_0 == a1_0) = false := by simpa using c9))
    (try (have c9b3 : ¬ (a0_0 = a1_0) := by simpa using c9))
    clear c9
    (first | rw [c9b0] | (simp only [i64_w, i32_w]; rw [c9b0]) | skip)
    have H' := Aside0.mk H
    clear H
    have hnb17 := NB232_233.out
    have hnc17 := NB233_232.out
    obtain ⟨hcz18_0, hcz18_1, hcz18_2, hfz18_0, hfz18_1, hfz18_2⟩ := bc3 BK232
    obtain ⟨hcz19_0, hcz19_1, hcz19_2, hfz19_0, hfz19_1, hfz19_2⟩ := bc3 BK233
    go_wp2
    repeat (go_quiet (fail); try go_wp2)
    go_meet
    case rel => exact ⟨_, (false), (by first | rfl | (simp; done) | (simp [*]; done)), H', ⟨by first | omega | exact Nat.le_refl _⟩, ⟨bkq BK232⟩, ⟨bkq BK233⟩, ⟨by repeat (first | (with_reducible first | exact HB.out | apply below_alloc | apply pw_below_drewN | apply below_drew1 | refine below_set ?_ GE232.out | refine below_set ?_ GE233.out) | exact HB.out)⟩⟩
  case rest =>
   clear HC5
   try clear c1
   try clear p2
   try clear c4
   try clear c6
   try clear c9
   try clear c9b0
   try clear c9b1
   try clear c9b2
   try clear c10
   try clear c10b0
   try clear c10b1
   try clear c10b2
   try clear c11
   try clear c14
   try clear c17
   try clear hcz12_0 hcz12_1 hcz12_2 hfz12_0 hfz12_1 hfz12_2
   try clear hcz13_0 hcz13_1 hcz13_2 hfz13_0 hfz13_1 hfz13_2
   try clear hcz15_0 hcz15_1 hcz15_2 hfz15_0 hfz15_1 hfz15_2
   try clear hcz16_0 hcz16_1 hcz16_2 hfz16_0 hfz16_1 hfz16_2
   try clear hcz18_0 hcz18_1 hcz18_2 hfz18_0 hfz18_1 hfz18_2
   try clear hcz19_0 hcz19_1 hcz19_2 hfz19_0 hfz19_1 hfz19_2
   obtain ⟨kq, x5_4, rfl, HA, HJ4, BK232, BK233, HB⟩ := hcut
   cases kq with
   | zero => exact absurd HA.out (by simp [maquettelaw23_LiftSame.j0])
   | succ kj4 =>
    have H := HA.out
    clear HA
    simp only [maquettelaw23_LiftSame.j0] at H
    have H' := Aside0.mk H
    clear H
    go_wp2
    repeat (go_quiet (fail); try go_wp2)
    go_loopg [5, 6] kj4 (fun kq v5 v6 w' => ∃ (x5_2 : Bool) (x6_2 : Int), v5 = .bool x5_2 ∧ v6 = .int .i64 x6_2 ∧ Aside0 (maquettelaw23_LiftSame.l0 kq x5_2 x6_2 a0_0 a0_1 l0_2 a1_0 a1_1 l1_2 = some r) ∧ Aside0 (kq ≤ kj4) ∧ Aside0 (w'.heap[gb232]? = some (.cells #[.bool a0_0, .bool a0_1, (.slice A0_2 l0_2.length c0_2)] 64 (0, 0))) ∧ Aside0 (w'.heap[gb233]? = some (.cells #[.bool a1_0, .bool a1_1, (.slice A1_2 l1_2.length c1_2)] 64 (0, 0))) ∧ Aside0 (Below w.heap.size w w'))
    case atStart => exact ⟨(x5_4), (0), (by first | rfl | (simp; done) | (simp [*]; done)), (by first | rfl | (simp; done) | (simp [*]; done)), H', ⟨Nat.le_refl _⟩, ⟨bkq BK232⟩, ⟨bkq BK233⟩, ⟨by repeat (first | (with_reducible first | exact HB.out | apply below_alloc | apply pw_below_drewN | apply below_drew1 | refine below_set ?_ GE232.out | refine below_set ?_ GE233.out) | exact HB.out)⟩⟩
    case round =>
     clear H'
     try clear c1
     try clear p2 p2
     try clear c4
     try clear c6
     try clear c9
     try clear c9b0
     try clear c9b1
     try clear c9b2
     try clear c10
     try clear c10b0
     try clear c10b1
     try clear c10b2
     try clear c11
     try clear c14
     try clear c17
     try clear hcz12_0 hcz12_1 hcz12_2 hfz12_0 hfz12_1 hfz12_2
     try clear hcz13_0 hcz13_1 hcz13_2 hfz13_0 hfz13_1 hfz13_2
     try clear hcz15_0 hcz15_1 hcz15_2 hfz15_0 hfz15_1 hfz15_2
     try clear hcz16_0 hcz16_1 hcz16_2 hfz16_0 hfz16_1 hfz16_2
     try clear hcz18_0 hcz18_1 hcz18_2 hfz18_0 hfz18_1 hfz18_2
     try clear hcz19_0 hcz19_1 hcz19_2 hfz19_0 hfz19_1 hfz19_2
     obtain ⟨x5_2, x6_2, rfl, rfl, HA, HK2, BK232, BK233, HB⟩ := hrel
     cases gk with
     | zero => exact absurd HA.out (by simp [maquettelaw23_LiftSame.l0])
     | succ k2 =>
      have H := HA.out
      clear HA
      simp only [maquettelaw23_LiftSame.l0] at H
      by_cases c20 : x5_2 = true
      ·subst c20
       have H1 : (if x6_2 < (l0_2.length : Int) then (if 0 ≤ x6_2 then (if x6_2 < (l1_2.length : Int) then (maquettelaw23_LiftSame.l0 k2 ((rd l0_2 x6_2) == (rd l1_2 x6_2)) (wrap64 (x6_2 + 1)) a0_0 a0_1 l0_2 a1_0 a1_1 l1_2) else (none)) else (none)) else ((lift_Same.f k2 a0_0 a0_1 l0_2 a1_0 a1_1 l1_2).bind fun t238 => (if (t238 == true) = true then ((lift_Same.f k2 a0_0 a0_1 l0_2 a0_0 a0_1 l0_2).bind fun t239 => (if t239 = true then ((lift_Same.f k2 a0_0 a0_1 l0_2 a0_0 (!a0_1) l0_2).bind fun t240 => (some (!t240))) else (some false))) else (some false)))) = some r := by rw [if_pos rfl] at H; exact H
       clear H
       have H := H1
       clear H1
       by_cases c21 : x6_2 < (l0_2.length : Int)
       ·rw [if_pos c21] at H
        have c21b0 : decide (x6_2 < (l0_2.length : Int)) = true := decide_eq_true c21
        clear c21
        by_cases c22 : 0 ≤ x6_2
        ·rw [if_pos c22] at H
         have c22b0 : decide (0 ≤ x6_2) = true := decide_eq_true c22
         clear c22
         by_cases c23 : x6_2 < (l1_2.length : Int)
         ·rw [if_pos c23] at H
          have c23b0 : decide (x6_2 < (l1_2.length : Int)) = true := decide_eq_true c23
          clear c23
          have H' := Aside0.mk H
          clear H
          have hnb24 := NB232_233.out
          have hnc24 := NB233_232.out
          obtain ⟨hcz25_0, hcz25_1, hcz25_2, hfz25_0, hfz25_1, hfz25_2⟩ := bc3 BK232
          have p235 : 0 ≤ (x6_2 : Int) := of_decide_eq_true (by first | (with_reducible assumption) | assumption)
          have q235 : x6_2 < (l0_2.length : Int) := of_decide_eq_true (by first | (with_reducible assumption) | assumption)
          obtain ⟨ad235, e235, hx235_0⟩ := Kd.at_int HR0_2.out x6_2 p235 q235
          cases e235
          replace hx235_0 := (HB.out.cell (World.block_lt_of_cell? w _ hx235_0)).trans hx235_0
          replace p235 := eq_true p235
          replace q235 := eq_true q235
          obtain ⟨hcz26_0, hcz26_1, hcz26_2, hfz26_0, hfz26_1, hfz26_2⟩ := bc3 BK233
          have p236 : 0 ≤ (x6_2 : Int) := of_decide_eq_true (by first | (with_reducible assumption) | assumption)
          have q236 : x6_2 < (l1_2.length : Int) := of_decide_eq_true (by first | (with_reducible assumption) | assumption)
          obtain ⟨ad236, e236, hx236_0⟩ := Kd.at_int HR1_2.out x6_2 p236 q236
          cases e236
          replace hx236_0 := (HB.out.cell (World.block_lt_of_cell? w _ hx236_0)).trans hx236_0
          replace p236 := eq_true p236
          replace q236 := eq_true q236
          go_wp2
          repeat (go_quiet (fail); try go_wp2)
          go_roundg k2
          case measure => have := HJ4.out; have := HK2.out; omega
          case rel => exact ⟨(((rd l0_2 x6_2) == (rd l1_2 x6_2))), (wrap64 (x6_2 + 1)), (by first | rfl | (simp; done) | (simp [*]; done)), (by first | rfl | (simp; done) | (simp [*]; done)), H', ⟨by have := HJ4.out; have := HK2.out; omega⟩, ⟨bkq BK232⟩, ⟨bkq BK233⟩, ⟨by repeat (first | (with_reducible first | exact HB.out | apply below_alloc | apply pw_below_drewN | apply below_drew1 | refine below_set ?_ GE232.out | refine below_set ?_ GE233.out) | exact HB.out)⟩⟩
         ·rw [if_neg c23] at H
          exact absurd H (by simp)
        ·rw [if_neg c22] at H
         exact absurd H (by simp)
       ·rw [if_neg c21] at H
        have c21b0 : decide (x6_2 < (l0_2.length : Int)) = false := decide_eq_false c21
        clear c21
        replace H := Option.bind_eq_some_iff.mp H
        obtain ⟨t238, A270, H⟩ := H
        replace H : (if (t238 == true) = true then ((lift_Same.f k2 a0_0 a0_1 l0_2 a0_0 a0_1 l0_2).bind fun t239 => (if t239 = true then ((lift_Same.f k2 a0_0 a0_1 l0_2 a0_0 (!a0_1) l0_2).bind fun t240 => (some (!t240))) else (some false))) else (some false)) = some r := H
        have A27 := Aside0.mk A270
        clear A270
        by_cases c28 : (t238 == true) = true
        ·rw [if_pos c28] at H
         have c28b0 : (t238 == true) = true := c28
         (try (have c28b1 : decide (t238 = true) = true := by simpa using c28))
         (try (have c28b2 : (t238 == true) = true := by simpa using c28))
         clear c28
         replace H := Option.bind_eq_some_iff.mp H
         obtain ⟨t239, A290, H⟩ := H
         replace H : (if t239 = true then ((lift_Same.f k2 a0_0 a0_1 l0_2 a0_0 (!a0_1) l0_2).bind fun t240 => (some (!t240))) else (some false)) = some r := H
         have A29 := Aside0.mk A290
         clear A290
         by_cases c30 : t239 = true
         ·subst c30
          have H1 : ((lift_Same.f k2 a0_0 a0_1 l0_2 a0_0 (!a0_1) l0_2).bind fun t240 => (some (!t240))) = some r := by rw [if_pos rfl] at H; exact H
          clear H
          have H := H1
          clear H1
          replace H := Option.bind_eq_some_iff.mp H
          obtain ⟨t240, A310, H⟩ := H
          replace H : (some (!t240)) = some r := H
          have A31 := Aside0.mk A310
          clear A310
          obtain rfl := Option.some.inj H
          have hnb32 := NB232_233.out
          have hnc32 := NB233_232.out
          obtain ⟨hcz33_0, hcz33_1, hcz33_2, hfz33_0, hfz33_1, hfz33_2⟩ := bc3 BK232
          go_wp2_with (first | ((with_reducible refine gate_dst (N := 7) rfl ?_); (try (refine gate_guard (by rfl) ?_; dsimp only)); refine bx 7 (cs := #[.bool false, .bool false, .slice none 0 0]) (t := 64) (h := ?_); intro gb237 hg w34 hbox hb; have BK237 := Aside0.mk hbox; have GW237 : Aside0 (w.heap.size ≤ gb237) := bge hg; have GE237 : Aside0 (w.heap.size ≤ gb237) := bge hg; have NB232_237 := bne BK232 hg; have NB237_232 := bnf BK232 hg; have NB233_237 := bne BK233 hg; have NB237_233 := bnf BK233 hg; replace BK232 := bkb BK232 hb; replace BK233 := bkb BK233 hb; replace HB := bst hb; clear hb hbox hg; have hnb35 := NB237_232.out; have hnc35 := NB232_237.out; have hnb36 := NB237_233.out; have hnc36 := NB233_237.out; obtain ⟨hcz37_0, hcz37_1, hcz37_2, hfz37_0, hfz37_1, hfz37_2⟩ := bc3 BK237; obtain ⟨hcz38_0, hcz38_1, hcz38_2, hfz38_0, hfz38_1, hfz38_2⟩ := bc3 BK232; obtain ⟨hcz39_0, hcz39_1, hcz39_2, hfz39_0, hfz39_1, hfz39_2⟩ := bc3 BK233) | (go_at_call 22; (with_reducible refine (lift_Same.calls k2 a0_0 a0_1 _ _ l0_2 a1_0 a1_1 _ _ l1_2 t238 _ ?side1 ?side2 ?side3 ?side4 A27.out).mono ?_); (case side1 => exact Kd.C_below HR0_2.out bel); (case side2 => exact HC0_2.out); (case side3 => exact Kd.C_below HR1_2.out bel); (case side4 => exact HC1_2.out); rintro e w40 ⟨rfl, hb⟩; replace BK232 := bkb BK232 hb; replace BK233 := bkb BK233 hb; replace BK237 := Aside0.mk (blk_below (g := gb237) (o := .cells #[.bool a0_0, .bool (!a0_1), .slice A0_2 l0_2.length c0_2] 64 (0, 0)) (bkp BK237) hb); replace HB := bst hb; (try clear hb); (try clear hb2); (try clear hk); (try clear hi); obtain ⟨hcz41_0, hcz41_1, hcz41_2, hfz41_0, hfz41_1, hfz41_2⟩ := bc3 BK232) | (go_at_call 22; (with_reducible refine (lift_Same.calls k2 a0_0 a0_1 _ _ l0_2 a0_0 a0_1 _ _ l0_2 true _ ?side1 ?side2 ?side3 ?side4 A29.out).mono ?_); (case side1 => repeat (first | exact (Kd.C_below HR0_2.out HB.out) | (with_reducible refine Kd.C_alloc ?_ _) | (with_reducible refine Kd.C_drewN ?_ _) | (with_reducible refine Kd.C_drew ?_))); (case side2 => exact HC0_2.out); (case side3 => repeat (first | exact (Kd.C_below HR0_2.out HB.out) | (with_reducible refine Kd.C_alloc ?_ _) | (with_reducible refine Kd.C_drewN ?_ _) | (with_reducible refine Kd.C_drew ?_))); (case side4 => exact HC0_2.out); rintro e w42 ⟨rfl, hb⟩; replace BK232 := bkb BK232 hb; replace BK233 := bkb BK233 hb; replace BK237 := bkb BK237 hb; replace HB := bst hb; (try clear hb); (try clear hb2); (try clear hk); (try clear hi); obtain ⟨hcz43_0, hcz43_1, hcz43_2, hfz43_0, hfz43_1, hfz43_2⟩ := bc3 BK232; obtain ⟨hcz44_0, hcz44_1, hcz44_2, hfz44_0, hfz44_1, hfz44_2⟩ := bc3 BK237) | (go_at_call 22; (with_reducible refine (lift_Same.calls k2 a0_0 a0_1 _ _ l0_2 a0_0 (!a0_1) _ _ l0_2 t240 _ ?side1 ?side2 ?side3 ?side4 A31.out).mono ?_); (case side1 => repeat (first | exact (Kd.C_below HR0_2.out HB.out) | (with_reducible refine Kd.C_alloc ?_ _) | (with_reducible refine Kd.C_drewN ?_ _) | (with_reducible refine Kd.C_drew ?_))); (case side2 => exact HC0_2.out); (case side3 => repeat (first | exact (Kd.C_below HR0_2.out HB.out) | (with_reducible refine Kd.C_alloc ?_ _) | (with_reducible refine Kd.C_drewN ?_ _) | (with_reducible refine Kd.C_drew ?_))); (case side4 => exact HC0_2.out); rintro e w45 ⟨rfl, hb⟩; replace BK232 := bkb BK232 hb; replace BK233 := bkb BK233 hb; replace BK237 := bkb BK237 hb; replace HB := bst hb; (try clear hb); (try clear hb2); (try clear hk); (try clear hi)))
          repeat (go_quiet (first | ((with_reducible refine gate_dst (N := 7) rfl ?_); (try (refine gate_guard (by rfl) ?_; dsimp only)); refine bx 7 (cs := #[.bool false, .bool false, .slice none 0 0]) (t := 64) (h := ?_); intro gb237 hg w34 hbox hb; have BK237 := Aside0.mk hbox; have GW237 : Aside0 (w.heap.size ≤ gb237) := bge hg; have GE237 : Aside0 (w.heap.size ≤ gb237) := bge hg; have NB232_237 := bne BK232 hg; have NB237_232 := bnf BK232 hg; have NB233_237 := bne BK233 hg; have NB237_233 := bnf BK233 hg; replace BK232 := bkb BK232 hb; replace BK233 := bkb BK233 hb; replace HB := bst hb; clear hb hbox hg; have hnb35 := NB237_232.out; have hnc35 := NB232_237.out; have hnb36 := NB237_233.out; have hnc36 := NB233_237.out; obtain ⟨hcz37_0, hcz37_1, hcz37_2, hfz37_0, hfz37_1, hfz37_2⟩ := bc3 BK237; obtain ⟨hcz38_0, hcz38_1, hcz38_2, hfz38_0, hfz38_1, hfz38_2⟩ := bc3 BK232; obtain ⟨hcz39_0, hcz39_1, hcz39_2, hfz39_0, hfz39_1, hfz39_2⟩ := bc3 BK233) | (go_at_call 22; (with_reducible refine (lift_Same.calls k2 a0_0 a0_1 _ _ l0_2 a1_0 a1_1 _ _ l1_2 t238 _ ?side1 ?side2 ?side3 ?side4 A27.out).mono ?_); (case side1 => exact Kd.C_below HR0_2.out bel); (case side2 => exact HC0_2.out); (case side3 => exact Kd.C_below HR1_2.out bel); (case side4 => exact HC1_2.out); rintro e w40 ⟨rfl, hb⟩; replace BK232 := bkb BK232 hb; replace BK233 := bkb BK233 hb; replace BK237 := Aside0.mk (blk_below (g := gb237) (o := .cells #[.bool a0_0, .bool (!a0_1), .slice A0_2 l0_2.length c0_2] 64 (0, 0)) (bkp BK237) hb); replace HB := bst hb; (try clear hb); (try clear hb2); (try clear hk); (try clear hi); obtain ⟨hcz41_0, hcz41_1, hcz41_2, hfz41_0, hfz41_1, hfz41_2⟩ := bc3 BK232) | (go_at_call 22; (with_reducible refine (lift_Same.calls k2 a0_0 a0_1 _ _ l0_2 a0_0 a0_1 _ _ l0_2 true _ ?side1 ?side2 ?side3 ?side4 A29.out).mono ?_); (case side1 => repeat (first | exact (Kd.C_below HR0_2.out HB.out) | (with_reducible refine Kd.C_alloc ?_ _) | (with_reducible refine Kd.C_drewN ?_ _) | (with_reducible refine Kd.C_drew ?_))); (case side2 => exact HC0_2.out); (case side3 => repeat (first | exact (Kd.C_below HR0_2.out HB.out) | (with_reducible refine Kd.C_alloc ?_ _) | (with_reducible refine Kd.C_drewN ?_ _) | (with_reducible refine Kd.C_drew ?_))); (case side4 => exact HC0_2.out); rintro e w42 ⟨rfl, hb⟩; replace BK232 := bkb BK232 hb; replace BK233 := bkb BK233 hb; replace BK237 := bkb BK237 hb; replace HB := bst hb; (try clear hb); (try clear hb2); (try clear hk); (try clear hi); obtain ⟨hcz43_0, hcz43_1, hcz43_2, hfz43_0, hfz43_1, hfz43_2⟩ := bc3 BK232; obtain ⟨hcz44_0, hcz44_1, hcz44_2, hfz44_0, hfz44_1, hfz44_2⟩ := bc3 BK237) | (go_at_call 22; (with_reducible refine (lift_Same.calls k2 a0_0 a0_1 _ _ l0_2 a0_0 (!a0_1) _ _ l0_2 t240 _ ?side1 ?side2 ?side3 ?side4 A31.out).mono ?_); (case side1 => repeat (first | exact (Kd.C_below HR0_2.out HB.out) | (with_reducible refine Kd.C_alloc ?_ _) | (with_reducible refine Kd.C_drewN ?_ _) | (with_reducible refine Kd.C_drew ?_))); (case side2 => exact HC0_2.out); (case side3 => repeat (first | exact (Kd.C_below HR0_2.out HB.out) | (with_reducible refine Kd.C_alloc ?_ _) | (with_reducible refine Kd.C_drewN ?_ _) | (with_reducible refine Kd.C_drew ?_))); (case side4 => exact HC0_2.out); rintro e w45 ⟨rfl, hb⟩; replace BK232 := bkb BK232 hb; replace BK233 := bkb BK233 hb; replace BK237 := bkb BK237 hb; replace HB := bst hb; (try clear hb); (try clear hb2); (try clear hk); (try clear hi))); try go_wp2_with (first | ((with_reducible refine gate_dst (N := 7) rfl ?_); (try (refine gate_guard (by rfl) ?_; dsimp only)); refine bx 7 (cs := #[.bool false, .bool false, .slice none 0 0]) (t := 64) (h := ?_); intro gb237 hg w34 hbox hb; have BK237 := Aside0.mk hbox; have GW237 : Aside0 (w.heap.size ≤ gb237) := bge hg; have GE237 : Aside0 (w.heap.size ≤ gb237) := bge hg; have NB232_237 := bne BK232 hg; have NB237_232 := bnf BK232 hg; have NB233_237 := bne BK233 hg; have NB237_233 := bnf BK233 hg; replace BK232 := bkb BK232 hb; replace BK233 := bkb BK233 hb; replace HB := bst hb; clear hb hbox hg; have hnb35 := NB237_232.out; have hnc35 := NB232_237.out; have hnb36 := NB237_233.out; have hnc36 := NB233_237.out; obtain ⟨hcz37_0, hcz37_1, hcz37_2, hfz37_0, hfz37_1, hfz37_2⟩ := bc3 BK237; obtain ⟨hcz38_0, hcz38_1, hcz38_2, hfz38_0, hfz38_1, hfz38_2⟩ := bc3 BK232; obtain ⟨hcz39_0, hcz39_1, hcz39_2, hfz39_0, hfz39_1, hfz39_2⟩ := bc3 BK233) | (go_at_call 22; (with_reducible refine (lift_Same.calls k2 a0_0 a0_1 _ _ l0_2 a1_0 a1_1 _ _ l1_2 t238 _ ?side1 ?side2 ?side3 ?side4 A27.out).mono ?_); (case side1 => exact Kd.C_below HR0_2.out bel); (case side2 => exact HC0_2.out); (case side3 => exact Kd.C_below HR1_2.out bel); (case side4 => exact HC1_2.out); rintro e w40 ⟨rfl, hb⟩; replace BK232 := bkb BK232 hb; replace BK233 := bkb BK233 hb; replace BK237 := Aside0.mk (blk_below (g := gb237) (o := .cells #[.bool a0_0, .bool (!a0_1), .slice A0_2 l0_2.length c0_2] 64 (0, 0)) (bkp BK237) hb); replace HB := bst hb; (try clear hb); (try clear hb2); (try clear hk); (try clear hi); obtain ⟨hcz41_0, hcz41_1, hcz41_2, hfz41_0, hfz41_1, hfz41_2⟩ := bc3 BK232) | (go_at_call 22; (with_reducible refine (lift_Same.calls k2 a0_0 a0_1 _ _ l0_2 a0_0 a0_1 _ _ l0_2 true _ ?side1 ?side2 ?side3 ?side4 A29.out).mono ?_); (case side1 => repeat (first | exact (Kd.C_below HR0_2.out HB.out) | (with_reducible refine Kd.C_alloc ?_ _) | (with_reducible refine Kd.C_drewN ?_ _) | (with_reducible refine Kd.C_drew ?_))); (case side2 => exact HC0_2.out); (case side3 => repeat (first | exact (Kd.C_below HR0_2.out HB.out) | (with_reducible refine Kd.C_alloc ?_ _) | (with_reducible refine Kd.C_drewN ?_ _) | (with_reducible refine Kd.C_drew ?_))); (case side4 => exact HC0_2.out); rintro e w42 ⟨rfl, hb⟩; replace BK232 := bkb BK232 hb; replace BK233 := bkb BK233 hb; replace BK237 := bkb BK237 hb; replace HB := bst hb; (try clear hb); (try clear hb2); (try clear hk); (try clear hi); obtain ⟨hcz43_0, hcz43_1, hcz43_2, hfz43_0, hfz43_1, hfz43_2⟩ := bc3 BK232; obtain ⟨hcz44_0, hcz44_1, hcz44_2, hfz44_0, hfz44_1, hfz44_2⟩ := bc3 BK237) | (go_at_call 22; (with_reducible refine (lift_Same.calls k2 a0_0 a0_1 _ _ l0_2 a0_0 (!a0_1) _ _ l0_2 t240 _ ?side1 ?side2 ?side3 ?side4 A31.out).mono ?_); (case side1 => repeat (first | exact (Kd.C_below HR0_2.out HB.out) | (with_reducible refine Kd.C_alloc ?_ _) | (with_reducible refine Kd.C_drewN ?_ _) | (with_reducible refine Kd.C_drew ?_))); (case side2 => exact HC0_2.out); (case side3 => repeat (first | exact (Kd.C_below HR0_2.out HB.out) | (with_reducible refine Kd.C_alloc ?_ _) | (with_reducible refine Kd.C_drewN ?_ _) | (with_reducible refine Kd.C_drew ?_))); (case side4 => exact HC0_2.out); rintro e w45 ⟨rfl, hb⟩; replace BK232 := bkb BK232 hb; replace BK233 := bkb BK233 hb; replace BK237 := bkb BK237 hb; replace HB := bst hb; (try clear hb); (try clear hb2); (try clear hk); (try clear hi))))
          go_ret
          exact ⟨by first | rfl | (simp [errW_none, errW_some] <;> rfl) | (simp [*, errW_none, errW_some] <;> rfl), by repeat (first | (with_reducible first | exact HB.out | apply below_alloc | apply pw_below_drewN | apply below_drew1 | refine below_set ?_ GE232.out | refine below_set ?_ GE233.out | refine below_set ?_ GE237.out) | exact HB.out)⟩
         ·replace c30 := Bool.eq_false_iff.mpr c30
          subst c30
          have H1 : (some false) = some r := by rw [if_neg (show ¬ (false = true) by decide)] at H; exact H
          clear H
          have H := H1
          clear H1
          obtain rfl := Option.some.inj H
          have hnb46 := NB232_233.out
          have hnc46 := NB233_232.out
          obtain ⟨hcz47_0, hcz47_1, hcz47_2, hfz47_0, hfz47_1, hfz47_2⟩ := bc3 BK232
          go_wp2_with (first | ((with_reducible refine gate_dst (N := 7) rfl ?_); (try (refine gate_guard (by rfl) ?_; dsimp only)); refine bx 7 (cs := #[.bool false, .bool false, .slice none 0 0]) (t := 64) (h := ?_); intro gb237 hg w48 hbox hb; have BK237 := Aside0.mk hbox; have GW237 : Aside0 (w.heap.size ≤ gb237) := bge hg; have GE237 : Aside0 (w.heap.size ≤ gb237) := bge hg; have NB232_237 := bne BK232 hg; have NB237_232 := bnf BK232 hg; have NB233_237 := bne BK233 hg; have NB237_233 := bnf BK233 hg; replace BK232 := bkb BK232 hb; replace BK233 := bkb BK233 hb; replace HB := bst hb; clear hb hbox hg; have hnb49 := NB237_232.out; have hnc49 := NB232_237.out; have hnb50 := NB237_233.out; have hnc50 := NB233_237.out; obtain ⟨hcz51_0, hcz51_1, hcz51_2, hfz51_0, hfz51_1, hfz51_2⟩ := bc3 BK237; obtain ⟨hcz52_0, hcz52_1, hcz52_2, hfz52_0, hfz52_1, hfz52_2⟩ := bc3 BK232; obtain ⟨hcz53_0, hcz53_1, hcz53_2, hfz53_0, hfz53_1, hfz53_2⟩ := bc3 BK233) | (go_at_call 22; (with_reducible refine (lift_Same.calls k2 a0_0 a0_1 _ _ l0_2 a1_0 a1_1 _ _ l1_2 t238 _ ?side1 ?side2 ?side3 ?side4 A27.out).mono ?_); (case side1 => exact Kd.C_below HR0_2.out bel); (case side2 => exact HC0_2.out); (case side3 => exact Kd.C_below HR1_2.out bel); (case side4 => exact HC1_2.out); rintro e w54 ⟨rfl, hb⟩; replace BK232 := bkb BK232 hb; replace BK233 := bkb BK233 hb; replace BK237 := Aside0.mk (blk_below (g := gb237) (o := .cells #[.bool a0_0, .bool (!a0_1), .slice A0_2 l0_2.length c0_2] 64 (0, 0)) (bkp BK237) hb); replace HB := bst hb; (try clear hb); (try clear hb2); (try clear hk); (try clear hi); obtain ⟨hcz55_0, hcz55_1, hcz55_2, hfz55_0, hfz55_1, hfz55_2⟩ := bc3 BK232) | (go_at_call 22; (with_reducible refine (lift_Same.calls k2 a0_0 a0_1 _ _ l0_2 a0_0 a0_1 _ _ l0_2 false _ ?side1 ?side2 ?side3 ?side4 A29.out).mono ?_); (case side1 => repeat (first | exact (Kd.C_below HR0_2.out HB.out) | (with_reducible refine Kd.C_alloc ?_ _) | (with_reducible refine Kd.C_drewN ?_ _) | (with_reducible refine Kd.C_drew ?_))); (case side2 => exact HC0_2.out); (case side3 => repeat (first | exact (Kd.C_below HR0_2.out HB.out) | (with_reducible refine Kd.C_alloc ?_ _) | (with_reducible refine Kd.C_drewN ?_ _) | (with_reducible refine Kd.C_drew ?_))); (case side4 => exact HC0_2.out); rintro e w56 ⟨rfl, hb⟩; replace BK232 := bkb BK232 hb; replace BK233 := bkb BK233 hb; replace BK237 := bkb BK237 hb; replace HB := bst hb; (try clear hb); (try clear hb2); (try clear hk); (try clear hi)))
          repeat (go_quiet (first | ((with_reducible refine gate_dst (N := 7) rfl ?_); (try (refine gate_guard (by rfl) ?_; dsimp only)); refine bx 7 (cs := #[.bool false, .bool false, .slice none 0 0]) (t := 64) (h := ?_); intro gb237 hg w48 hbox hb; have BK237 := Aside0.mk hbox; have GW237 : Aside0 (w.heap.size ≤ gb237) := bge hg; have GE237 : Aside0 (w.heap.size ≤ gb237) := bge hg; have NB232_237 := bne BK232 hg; have NB237_232 := bnf BK232 hg; have NB233_237 := bne BK233 hg; have NB237_233 := bnf BK233 hg; replace BK232 := bkb BK232 hb; replace BK233 := bkb BK233 hb; replace HB := bst hb; clear hb hbox hg; have hnb49 := NB237_232.out; have hnc49 := NB232_237.out; have hnb50 := NB237_233.out; have hnc50 := NB233_237.out; obtain ⟨hcz51_0, hcz51_1, hcz51_2, hfz51_0, hfz51_1, hfz51_2⟩ := bc3 BK237; obtain ⟨hcz52_0, hcz52_1, hcz52_2, hfz52_0, hfz52_1, hfz52_2⟩ := bc3 BK232; obtain ⟨hcz53_0, hcz53_1, hcz53_2, hfz53_0, hfz53_1, hfz53_2⟩ := bc3 BK233) | (go_at_call 22; (with_reducible refine (lift_Same.calls k2 a0_0 a0_1 _ _ l0_2 a1_0 a1_1 _ _ l1_2 t238 _ ?side1 ?side2 ?side3 ?side4 A27.out).mono ?_); (case side1 => exact Kd.C_below HR0_2.out bel); (case side2 => exact HC0_2.out); (case side3 => exact Kd.C_below HR1_2.out bel); (case side4 => exact HC1_2.out); rintro e w54 ⟨rfl, hb⟩; replace BK232 := bkb BK232 hb; replace BK233 := bkb BK233 hb; replace BK237 := Aside0.mk (blk_below (g := gb237) (o := .cells #[.bool a0_0, .bool (!a0_1), .slice A0_2 l0_2.length c0_2] 64 (0, 0)) (bkp BK237) hb); replace HB := bst hb; (try clear hb); (try clear hb2); (try clear hk); (try clear hi); obtain ⟨hcz55_0, hcz55_1, hcz55_2, hfz55_0, hfz55_1, hfz55_2⟩ := bc3 BK232) | (go_at_call 22; (with_reducible refine (lift_Same.calls k2 a0_0 a0_1 _ _ l0_2 a0_0 a0_1 _ _ l0_2 false _ ?side1 ?side2 ?side3 ?side4 A29.out).mono ?_); (case side1 => repeat (first | exact (Kd.C_below HR0_2.out HB.out) | (with_reducible refine Kd.C_alloc ?_ _) | (with_reducible refine Kd.C_drewN ?_ _) | (with_reducible refine Kd.C_drew ?_))); (case side2 => exact HC0_2.out); (case side3 => repeat (first | exact (Kd.C_below HR0_2.out HB.out) | (with_reducible refine Kd.C_alloc ?_ _) | (with_reducible refine Kd.C_drewN ?_ _) | (with_reducible refine Kd.C_drew ?_))); (case side4 => exact HC0_2.out); rintro e w56 ⟨rfl, hb⟩; replace BK232 := bkb BK232 hb; replace BK233 := bkb BK233 hb; replace BK237 := bkb BK237 hb; replace HB := bst hb; (try clear hb); (try clear hb2); (try clear hk); (try clear hi))); try go_wp2_with (first | ((with_reducible refine gate_dst (N := 7) rfl ?_); (try (refine gate_guard (by rfl) ?_; dsimp only)); refine bx 7 (cs := #[.bool false, .bool false, .slice none 0 0]) (t := 64) (h := ?_); intro gb237 hg w48 hbox hb; have BK237 := Aside0.mk hbox; have GW237 : Aside0 (w.heap.size ≤ gb237) := bge hg; have GE237 : Aside0 (w.heap.size ≤ gb237) := bge hg; have NB232_237 := bne BK232 hg; have NB237_232 := bnf BK232 hg; have NB233_237 := bne BK233 hg; have NB237_233 := bnf BK233 hg; replace BK232 := bkb BK232 hb; replace BK233 := bkb BK233 hb; replace HB := bst hb; clear hb hbox hg; have hnb49 := NB237_232.out; have hnc49 := NB232_237.out; have hnb50 := NB237_233.out; have hnc50 := NB233_237.out; obtain ⟨hcz51_0, hcz51_1, hcz51_2, hfz51_0, hfz51_1, hfz51_2⟩ := bc3 BK237; obtain ⟨hcz52_0, hcz52_1, hcz52_2, hfz52_0, hfz52_1, hfz52_2⟩ := bc3 BK232; obtain ⟨hcz53_0, hcz53_1, hcz53_2, hfz53_0, hfz53_1, hfz53_2⟩ := bc3 BK233) | (go_at_call 22; (with_reducible refine (lift_Same.calls k2 a0_0 a0_1 _ _ l0_2 a1_0 a1_1 _ _ l1_2 t238 _ ?side1 ?side2 ?side3 ?side4 A27.out).mono ?_); (case side1 => exact Kd.C_below HR0_2.out bel); (case side2 => exact HC0_2.out); (case side3 => exact Kd.C_below HR1_2.out bel); (case side4 => exact HC1_2.out); rintro e w54 ⟨rfl, hb⟩; replace BK232 := bkb BK232 hb; replace BK233 := bkb BK233 hb; replace BK237 := Aside0.mk (blk_below (g := gb237) (o := .cells #[.bool a0_0, .bool (!a0_1), .slice A0_2 l0_2.length c0_2] 64 (0, 0)) (bkp BK237) hb); replace HB := bst hb; (try clear hb); (try clear hb2); (try clear hk); (try clear hi); obtain ⟨hcz55_0, hcz55_1, hcz55_2, hfz55_0, hfz55_1, hfz55_2⟩ := bc3 BK232) | (go_at_call 22; (with_reducible refine (lift_Same.calls k2 a0_0 a0_1 _ _ l0_2 a0_0 a0_1 _ _ l0_2 false _ ?side1 ?side2 ?side3 ?side4 A29.out).mono ?_); (case side1 => repeat (first | exact (Kd.C_below HR0_2.out HB.out) | (with_reducible refine Kd.C_alloc ?_ _) | (with_reducible refine Kd.C_drewN ?_ _) | (with_reducible refine Kd.C_drew ?_))); (case side2 => exact HC0_2.out); (case side3 => repeat (first | exact (Kd.C_below HR0_2.out HB.out) | (with_reducible refine Kd.C_alloc ?_ _) | (with_reducible refine Kd.C_drewN ?_ _) | (with_reducible refine Kd.C_drew ?_))); (case side4 => exact HC0_2.out); rintro e w56 ⟨rfl, hb⟩; replace BK232 := bkb BK232 hb; replace BK233 := bkb BK233 hb; replace BK237 := bkb BK237 hb; replace HB := bst hb; (try clear hb); (try clear hb2); (try clear hk); (try clear hi))))
          go_ret
          exact ⟨by first | rfl | (simp [errW_none, errW_some] <;> rfl) | (simp [*, errW_none, errW_some] <;> rfl), by repeat (first | (with_reducible first | exact HB.out | apply below_alloc | apply pw_below_drewN | apply below_drew1 | refine below_set ?_ GE232.out | refine below_set ?_ GE233.out | refine below_set ?_ GE237.out) | exact HB.out)⟩
        ·rw [if_neg c28] at H
         have c28b0 : (t238 == true) = false := by simpa using c28
         (try (have c28b1 : decide (t238 = true) = false := by simpa using c28))
         (try (have c28b2 : (t238 == true) = false := by simpa using c28))
         (try (have c28b3 : ¬ (t238 = true) := by simpa using c28))
         clear c28
         obtain rfl := Option.some.inj H
         have hnb57 := NB232_233.out
         have hnc57 := NB233_232.out
         obtain ⟨hcz58_0, hcz58_1, hcz58_2, hfz58_0, hfz58_1, hfz58_2⟩ := bc3 BK232
         go_wp2_with (first | ((with_reducible refine gate_dst (N := 7) rfl ?_); (try (refine gate_guard (by rfl) ?_; dsimp only)); refine bx 7 (cs := #[.bool false, .bool false, .slice none 0 0]) (t := 64) (h := ?_); intro gb237 hg w59 hbox hb; have BK237 := Aside0.mk hbox; have GW237 : Aside0 (w.heap.size ≤ gb237) := bge hg; have GE237 : Aside0 (w.heap.size ≤ gb237) := bge hg; have NB232_237 := bne BK232 hg; have NB237_232 := bnf BK232 hg; have NB233_237 := bne BK233 hg; have NB237_233 := bnf BK233 hg; replace BK232 := bkb BK232 hb; replace BK233 := bkb BK233 hb; replace HB := bst hb; clear hb hbox hg; have hnb60 := NB237_232.out; have hnc60 := NB232_237.out; have hnb61 := NB237_233.out; have hnc61 := NB233_237.out; obtain ⟨hcz62_0, hcz62_1, hcz62_2, hfz62_0, hfz62_1, hfz62_2⟩ := bc3 BK237; obtain ⟨hcz63_0, hcz63_1, hcz63_2, hfz63_0, hfz63_1, hfz63_2⟩ := bc3 BK232; obtain ⟨hcz64_0, hcz64_1, hcz64_2, hfz64_0, hfz64_1, hfz64_2⟩ := bc3 BK233) | (go_at_call 22; (with_reducible refine (lift_Same.calls k2 a0_0 a0_1 _ _ l0_2 a1_0 a1_1 _ _ l1_2 t238 _ ?side1 ?side2 ?side3 ?side4 A27.out).mono ?_); (case side1 => exact Kd.C_below HR0_2.out bel); (case side2 => exact HC0_2.out); (case side3 => exact Kd.C_below HR1_2.out bel); (case side4 => exact HC1_2.out); rintro e w65 ⟨rfl, hb⟩; replace BK232 := bkb BK232 hb; replace BK233 := bkb BK233 hb; replace BK237 := Aside0.mk (blk_below (g := gb237) (o := .cells #[.bool a0_0, .bool (!a0_1), .slice A0_2 l0_2.length c0_2] 64 (0, 0)) (bkp BK237) hb); replace HB := bst hb; (try clear hb); (try clear hb2); (try clear hk); (try clear hi)))
         repeat (go_quiet (first | ((with_reducible refine gate_dst (N := 7) rfl ?_); (try (refine gate_guard (by rfl) ?_; dsimp only)); refine bx 7 (cs := #[.bool false, .bool false, .slice none 0 0]) (t := 64) (h := ?_); intro gb237 hg w59 hbox hb; have BK237 := Aside0.mk hbox; have GW237 : Aside0 (w.heap.size ≤ gb237) := bge hg; have GE237 : Aside0 (w.heap.size ≤ gb237) := bge hg; have NB232_237 := bne BK232 hg; have NB237_232 := bnf BK232 hg; have NB233_237 := bne BK233 hg; have NB237_233 := bnf BK233 hg; replace BK232 := bkb BK232 hb; replace BK233 := bkb BK233 hb; replace HB := bst hb; clear hb hbox hg; have hnb60 := NB237_232.out; have hnc60 := NB232_237.out; have hnb61 := NB237_233.out; have hnc61 := NB233_237.out; obtain ⟨hcz62_0, hcz62_1, hcz62_2, hfz62_0, hfz62_1, hfz62_2⟩ := bc3 BK237; obtain ⟨hcz63_0, hcz63_1, hcz63_2, hfz63_0, hfz63_1, hfz63_2⟩ := bc3 BK232; obtain ⟨hcz64_0, hcz64_1, hcz64_2, hfz64_0, hfz64_1, hfz64_2⟩ := bc3 BK233) | (go_at_call 22; (with_reducible refine (lift_Same.calls k2 a0_0 a0_1 _ _ l0_2 a1_0 a1_1 _ _ l1_2 t238 _ ?side1 ?side2 ?side3 ?side4 A27.out).mono ?_); (case side1 => exact Kd.C_below HR0_2.out bel); (case side2 => exact HC0_2.out); (case side3 => exact Kd.C_below HR1_2.out bel); (case side4 => exact HC1_2.out); rintro e w65 ⟨rfl, hb⟩; replace BK232 := bkb BK232 hb; replace BK233 := bkb BK233 hb; replace BK237 := Aside0.mk (blk_below (g := gb237) (o := .cells #[.bool a0_0, .bool (!a0_1), .slice A0_2 l0_2.length c0_2] 64 (0, 0)) (bkp BK237) hb); replace HB := bst hb; (try clear hb); (try clear hb2); (try clear hk); (try clear hi))); try go_wp2_with (first | ((with_reducible refine gate_dst (N := 7) rfl ?_); (try (refine gate_guard (by rfl) ?_; dsimp only)); refine bx 7 (cs := #[.bool false, .bool false, .slice none 0 0]) (t := 64) (h := ?_); intro gb237 hg w59 hbox hb; have BK237 := Aside0.mk hbox; have GW237 : Aside0 (w.heap.size ≤ gb237) := bge hg; have GE237 : Aside0 (w.heap.size ≤ gb237) := bge hg; have NB232_237 := bne BK232 hg; have NB237_232 := bnf BK232 hg; have NB233_237 := bne BK233 hg; have NB237_233 := bnf BK233 hg; replace BK232 := bkb BK232 hb; replace BK233 := bkb BK233 hb; replace HB := bst hb; clear hb hbox hg; have hnb60 := NB237_232.out; have hnc60 := NB232_237.out; have hnb61 := NB237_233.out; have hnc61 := NB233_237.out; obtain ⟨hcz62_0, hcz62_1, hcz62_2, hfz62_0, hfz62_1, hfz62_2⟩ := bc3 BK237; obtain ⟨hcz63_0, hcz63_1, hcz63_2, hfz63_0, hfz63_1, hfz63_2⟩ := bc3 BK232; obtain ⟨hcz64_0, hcz64_1, hcz64_2, hfz64_0, hfz64_1, hfz64_2⟩ := bc3 BK233) | (go_at_call 22; (with_reducible refine (lift_Same.calls k2 a0_0 a0_1 _ _ l0_2 a1_0 a1_1 _ _ l1_2 t238 _ ?side1 ?side2 ?side3 ?side4 A27.out).mono ?_); (case side1 => exact Kd.C_below HR0_2.out bel); (case side2 => exact HC0_2.out); (case side3 => exact Kd.C_below HR1_2.out bel); (case side4 => exact HC1_2.out); rintro e w65 ⟨rfl, hb⟩; replace BK232 := bkb BK232 hb; replace BK233 := bkb BK233 hb; replace BK237 := Aside0.mk (blk_below (g := gb237) (o := .cells #[.bool a0_0, .bool (!a0_1), .slice A0_2 l0_2.length c0_2] 64 (0, 0)) (bkp BK237) hb); replace HB := bst hb; (try clear hb); (try clear hb2); (try clear hk); (try clear hi))))
         go_ret
         exact ⟨by first | rfl | (simp [errW_none, errW_some] <;> rfl) | (simp [*, errW_none, errW_some] <;> rfl), by repeat (first | (with_reducible first | exact HB.out | apply below_alloc | apply pw_below_drewN | apply below_drew1 | refine below_set ?_ GE232.out | refine below_set ?_ GE233.out | refine below_set ?_ GE237.out) | exact HB.out)⟩
      ·replace c20 := Bool.eq_false_iff.mpr c20
       subst c20
       have H1 : ((lift_Same.f k2 a0_0 a0_1 l0_2 a1_0 a1_1 l1_2).bind fun t242 => (if (t242 == false) = true then ((lift_Same.f k2 a0_0 a0_1 l0_2 a0_0 a0_1 l0_2).bind fun t243 => (if t243 = true then ((lift_Same.f k2 a0_0 a0_1 l0_2 a0_0 (!a0_1) l0_2).bind fun t244 => (some (!t244))) else (some false))) else (some false))) = some r := by rw [if_neg (show ¬ (false = true) by decide)] at H; exact H
       clear H
       have H := H1
       clear H1
       replace H := Option.bind_eq_some_iff.mp H
       obtain ⟨t242, A660, H⟩ := H
       replace H : (if (t242 == false) = true then ((lift_Same.f k2 a0_0 a0_1 l0_2 a0_0 a0_1 l0_2).bind fun t243 => (if t243 = true then ((lift_Same.f k2 a0_0 a0_1 l0_2 a0_0 (!a0_1) l0_2).bind fun t244 => (some (!t244))) else (some false))) else (some false)) = some r := H
       have A66 := Aside0.mk A660
       clear A660
       by_cases c67 : (t242 == false) = true
       ·rw [if_pos c67] at H
        have c67b0 : (t242 == false) = true := c67
        (try (have c67b1 : decide (t242 = false) = true := by simpa using c67))
        (try (have c67b2 : (t242 == false) = true := by simpa using c67))
        clear c67
        replace H := Option.bind_eq_some_iff.mp H
        obtain ⟨t243, A680, H⟩ := H
        replace H : (if t243 = true then ((lift_Same.f k2 a0_0 a0_1 l0_2 a0_0 (!a0_1) l0_2).bind fun t244 => (some (!t244))) else (some false)) = some r := H
        have A68 := Aside0.mk A680
        clear A680
        by_cases c69 : t243 = true
        ·subst c69
         have H1 : ((lift_Same.f k2 a0_0 a0_1 l0_2 a0_0 (!a0_1) l0_2).bind fun t244 => (some (!t244))) = some r := by rw [if_pos rfl] at H; exact H
         clear H
         have H := H1
         clear H1
         replace H := Option.bind_eq_some_iff.mp H
         obtain ⟨t244, A700, H⟩ := H
         replace H : (some (!t244)) = some r := H
         have A70 := Aside0.mk A700
         clear A700
         obtain rfl := Option.some.inj H
         have hnb71 := NB232_233.out
         have hnc71 := NB233_232.out
         obtain ⟨hcz72_0, hcz72_1, hcz72_2, hfz72_0, hfz72_1, hfz72_2⟩ := bc3 BK232
         go_wp2_with (first | ((with_reducible refine gate_dst (N := 7) rfl ?_); (try (refine gate_guard (by rfl) ?_; dsimp only)); refine bx 7 (cs := #[.bool false, .bool false, .slice none 0 0]) (t := 64) (h := ?_); intro gb241 hg w73 hbox hb; have BK241 := Aside0.mk hbox; have GW241 : Aside0 (w.heap.size ≤ gb241) := bge hg; have GE241 : Aside0 (w.heap.size ≤ gb241) := bge hg; have NB232_241 := bne BK232 hg; have NB241_232 := bnf BK232 hg; have NB233_241 := bne BK233 hg; have NB241_233 := bnf BK233 hg; replace BK232 := bkb BK232 hb; replace BK233 := bkb BK233 hb; replace HB := bst hb; clear hb hbox hg; have hnb74 := NB241_232.out; have hnc74 := NB232_241.out; have hnb75 := NB241_233.out; have hnc75 := NB233_241.out; obtain ⟨hcz76_0, hcz76_1, hcz76_2, hfz76_0, hfz76_1, hfz76_2⟩ := bc3 BK241; obtain ⟨hcz77_0, hcz77_1, hcz77_2, hfz77_0, hfz77_1, hfz77_2⟩ := bc3 BK232; obtain ⟨hcz78_0, hcz78_1, hcz78_2, hfz78_0, hfz78_1, hfz78_2⟩ := bc3 BK233) | (go_at_call 22; (with_reducible refine (lift_Same.calls k2 a0_0 a0_1 _ _ l0_2 a1_0 a1_1 _ _ l1_2 t242 _ ?side1 ?side2 ?side3 ?side4 A66.out).mono ?_); (case side1 => exact Kd.C_below HR0_2.out bel); (case side2 => exact HC0_2.out); (case side3 => exact Kd.C_below HR1_2.out bel); (case side4 => exact HC1_2.out); rintro e w79 ⟨rfl, hb⟩; replace BK232 := bkb BK232 hb; replace BK233 := bkb BK233 hb; replace BK241 := Aside0.mk (blk_below (g := gb241) (o := .cells #[.bool a0_0, .bool (!a0_1), .slice A0_2 l0_2.length c0_2] 64 (0, 0)) (bkp BK241) hb); replace HB := bst hb; (try clear hb); (try clear hb2); (try clear hk); (try clear hi); obtain ⟨hcz80_0, hcz80_1, hcz80_2, hfz80_0, hfz80_1, hfz80_2⟩ := bc3 BK232) | (go_at_call 22; (with_reducible refine (lift_Same.calls k2 a0_0 a0_1 _ _ l0_2 a0_0 a0_1 _ _ l0_2 true _ ?side1 ?side2 ?side3 ?side4 A68.out).mono ?_); (case side1 => repeat (first | exact (Kd.C_below HR0_2.out HB.out) | (with_reducible refine Kd.C_alloc ?_ _) | (with_reducible refine Kd.C_drewN ?_ _) | (with_reducible refine Kd.C_drew ?_))); (case side2 => exact HC0_2.out); (case side3 => repeat (first | exact (Kd.C_below HR0_2.out HB.out) | (with_reducible refine Kd.C_alloc ?_ _) | (with_reducible refine Kd.C_drewN ?_ _) | (with_reducible refine Kd.C_drew ?_))); (case side4 => exact HC0_2.out); rintro e w81 ⟨rfl, hb⟩; replace BK232 := bkb BK232 hb; replace BK233 := bkb BK233 hb; replace BK241 := bkb BK241 hb; replace HB := bst hb; (try clear hb); (try clear hb2); (try clear hk); (try clear hi); obtain ⟨hcz82_0, hcz82_1, hcz82_2, hfz82_0, hfz82_1, hfz82_2⟩ := bc3 BK232; obtain ⟨hcz83_0, hcz83_1, hcz83_2, hfz83_0, hfz83_1, hfz83_2⟩ := bc3 BK241) | (go_at_call 22; (with_reducible refine (lift_Same.calls k2 a0_0 a0_1 _ _ l0_2 a0_0 (!a0_1) _ _ l0_2 t244 _ ?side1 ?side2 ?side3 ?side4 A70.out).mono ?_); (case side1 => repeat (first | exact (Kd.C_below HR0_2.out HB.out) | (with_reducible refine Kd.C_alloc ?_ _) | (with_reducible refine Kd.C_drewN ?_ _) | (with_reducible refine Kd.C_drew ?_))); (case side2 => exact HC0_2.out); (case side3 => repeat (first | exact (Kd.C_below HR0_2.out HB.out) | (with_reducible refine Kd.C_alloc ?_ _) | (with_reducible refine Kd.C_drewN ?_ _) | (with_reducible refine Kd.C_drew ?_))); (case side4 => exact HC0_2.out); rintro e w84 ⟨rfl, hb⟩; replace BK232 := bkb BK232 hb; replace BK233 := bkb BK233 hb; replace BK241 := bkb BK241 hb; replace HB := bst hb; (try clear hb); (try clear hb2); (try clear hk); (try clear hi)))
         repeat (go_quiet (first | ((with_reducible refine gate_dst (N := 7) rfl ?_); (try (refine gate_guard (by rfl) ?_; dsimp only)); refine bx 7 (cs := #[.bool false, .bool false, .slice none 0 0]) (t := 64) (h := ?_); intro gb241 hg w73 hbox hb; have BK241 := Aside0.mk hbox; have GW241 : Aside0 (w.heap.size ≤ gb241) := bge hg; have GE241 : Aside0 (w.heap.size ≤ gb241) := bge hg; have NB232_241 := bne BK232 hg; have NB241_232 := bnf BK232 hg; have NB233_241 := bne BK233 hg; have NB241_233 := bnf BK233 hg; replace BK232 := bkb BK232 hb; replace BK233 := bkb BK233 hb; replace HB := bst hb; clear hb hbox hg; have hnb74 := NB241_232.out; have hnc74 := NB232_241.out; have hnb75 := NB241_233.out; have hnc75 := NB233_241.out; obtain ⟨hcz76_0, hcz76_1, hcz76_2, hfz76_0, hfz76_1, hfz76_2⟩ := bc3 BK241; obtain ⟨hcz77_0, hcz77_1, hcz77_2, hfz77_0, hfz77_1, hfz77_2⟩ := bc3 BK232; obtain ⟨hcz78_0, hcz78_1, hcz78_2, hfz78_0, hfz78_1, hfz78_2⟩ := bc3 BK233) | (go_at_call 22; (with_reducible refine (lift_Same.calls k2 a0_0 a0_1 _ _ l0_2 a1_0 a1_1 _ _ l1_2 t242 _ ?side1 ?side2 ?side3 ?side4 A66.out).mono ?_); (case side1 => exact Kd.C_below HR0_2.out bel); (case side2 => exact HC0_2.out); (case side3 => exact Kd.C_below HR1_2.out bel); (case side4 => exact HC1_2.out); rintro e w79 ⟨rfl, hb⟩; replace BK232 := bkb BK232 hb; replace BK233 := bkb BK233 hb; replace BK241 := Aside0.mk (blk_below (g := gb241) (o := .cells #[.bool a0_0, .bool (!a0_1), .slice A0_2 l0_2.length c0_2] 64 (0, 0)) (bkp BK241) hb); replace HB := bst hb; (try clear hb); (try clear hb2); (try clear hk); (try clear hi); obtain ⟨hcz80_0, hcz80_1, hcz80_2, hfz80_0, hfz80_1, hfz80_2⟩ := bc3 BK232) | (go_at_call 22; (with_reducible refine (lift_Same.calls k2 a0_0 a0_1 _ _ l0_2 a0_0 a0_1 _ _ l0_2 true _ ?side1 ?side2 ?side3 ?side4 A68.out).mono ?_); (case side1 => repeat (first | exact (Kd.C_below HR0_2.out HB.out) | (with_reducible refine Kd.C_alloc ?_ _) | (with_reducible refine Kd.C_drewN ?_ _) | (with_reducible refine Kd.C_drew ?_))); (case side2 => exact HC0_2.out); (case side3 => repeat (first | exact (Kd.C_below HR0_2.out HB.out) | (with_reducible refine Kd.C_alloc ?_ _) | (with_reducible refine Kd.C_drewN ?_ _) | (with_reducible refine Kd.C_drew ?_))); (case side4 => exact HC0_2.out); rintro e w81 ⟨rfl, hb⟩; replace BK232 := bkb BK232 hb; replace BK233 := bkb BK233 hb; replace BK241 := bkb BK241 hb; replace HB := bst hb; (try clear hb); (try clear hb2); (try clear hk); (try clear hi); obtain ⟨hcz82_0, hcz82_1, hcz82_2, hfz82_0, hfz82_1, hfz82_2⟩ := bc3 BK232; obtain ⟨hcz83_0, hcz83_1, hcz83_2, hfz83_0, hfz83_1, hfz83_2⟩ := bc3 BK241) | (go_at_call 22; (with_reducible refine (lift_Same.calls k2 a0_0 a0_1 _ _ l0_2 a0_0 (!a0_1) _ _ l0_2 t244 _ ?side1 ?side2 ?side3 ?side4 A70.out).mono ?_); (case side1 => repeat (first | exact (Kd.C_below HR0_2.out HB.out) | (with_reducible refine Kd.C_alloc ?_ _) | (with_reducible refine Kd.C_drewN ?_ _) | (with_reducible refine Kd.C_drew ?_))); (case side2 => exact HC0_2.out); (case side3 => repeat (first | exact (Kd.C_below HR0_2.out HB.out) | (with_reducible refine Kd.C_alloc ?_ _) | (with_reducible refine Kd.C_drewN ?_ _) | (with_reducible refine Kd.C_drew ?_))); (case side4 => exact HC0_2.out); rintro e w84 ⟨rfl, hb⟩; replace BK232 := bkb BK232 hb; replace BK233 := bkb BK233 hb; replace BK241 := bkb BK241 hb; replace HB := bst hb; (try clear hb); (try clear hb2); (try clear hk); (try clear hi))); try go_wp2_with (first | ((with_reducible refine gate_dst (N := 7) rfl ?_); (try (refine gate_guard (by rfl) ?_; dsimp only)); refine bx 7 (cs := #[.bool false, .bool false, .slice none 0 0]) (t := 64) (h := ?_); intro gb241 hg w73 hbox hb; have BK241 := Aside0.mk hbox; have GW241 : Aside0 (w.heap.size ≤ gb241) := bge hg; have GE241 : Aside0 (w.heap.size ≤ gb241) := bge hg; have NB232_241 := bne BK232 hg; have NB241_232 := bnf BK232 hg; have NB233_241 := bne BK233 hg; have NB241_233 := bnf BK233 hg; replace BK232 := bkb BK232 hb; replace BK233 := bkb BK233 hb; replace HB := bst hb; clear hb hbox hg; have hnb74 := NB241_232.out; have hnc74 := NB232_241.out; have hnb75 := NB241_233.out; have hnc75 := NB233_241.out; obtain ⟨hcz76_0, hcz76_1, hcz76_2, hfz76_0, hfz76_1, hfz76_2⟩ := bc3 BK241; obtain ⟨hcz77_0, hcz77_1, hcz77_2, hfz77_0, hfz77_1, hfz77_2⟩ := bc3 BK232; obtain ⟨hcz78_0, hcz78_1, hcz78_2, hfz78_0, hfz78_1, hfz78_2⟩ := bc3 BK233) | (go_at_call 22; (with_reducible refine (lift_Same.calls k2 a0_0 a0_1 _ _ l0_2 a1_0 a1_1 _ _ l1_2 t242 _ ?side1 ?side2 ?side3 ?side4 A66.out).mono ?_); (case side1 => exact Kd.C_below HR0_2.out bel); (case side2 => exact HC0_2.out); (case side3 => exact Kd.C_below HR1_2.out bel); (case side4 => exact HC1_2.out); rintro e w79 ⟨rfl, hb⟩; replace BK232 := bkb BK232 hb; replace BK233 := bkb BK233 hb; replace BK241 := Aside0.mk (blk_below (g := gb241) (o := .cells #[.bool a0_0, .bool (!a0_1), .slice A0_2 l0_2.length c0_2] 64 (0, 0)) (bkp BK241) hb); replace HB := bst hb; (try clear hb); (try clear hb2); (try clear hk); (try clear hi); obtain ⟨hcz80_0, hcz80_1, hcz80_2, hfz80_0, hfz80_1, hfz80_2⟩ := bc3 BK232) | (go_at_call 22; (with_reducible refine (lift_Same.calls k2 a0_0 a0_1 _ _ l0_2 a0_0 a0_1 _ _ l0_2 true _ ?side1 ?side2 ?side3 ?side4 A68.out).mono ?_); (case side1 => repeat (first | exact (Kd.C_below HR0_2.out HB.out) | (with_reducible refine Kd.C_alloc ?_ _) | (with_reducible refine Kd.C_drewN ?_ _) | (with_reducible refine Kd.C_drew ?_))); (case side2 => exact HC0_2.out); (case side3 => repeat (first | exact (Kd.C_below HR0_2.out HB.out) | (with_reducible refine Kd.C_alloc ?_ _) | (with_reducible refine Kd.C_drewN ?_ _) | (with_reducible refine Kd.C_drew ?_))); (case side4 => exact HC0_2.out); rintro e w81 ⟨rfl, hb⟩; replace BK232 := bkb BK232 hb; replace BK233 := bkb BK233 hb; replace BK241 := bkb BK241 hb; replace HB := bst hb; (try clear hb); (try clear hb2); (try clear hk); (try clear hi); obtain ⟨hcz82_0, hcz82_1, hcz82_2, hfz82_0, hfz82_1, hfz82_2⟩ := bc3 BK232; obtain ⟨hcz83_0, hcz83_1, hcz83_2, hfz83_0, hfz83_1, hfz83_2⟩ := bc3 BK241) | (go_at_call 22; (with_reducible refine (lift_Same.calls k2 a0_0 a0_1 _ _ l0_2 a0_0 (!a0_1) _ _ l0_2 t244 _ ?side1 ?side2 ?side3 ?side4 A70.out).mono ?_); (case side1 => repeat (first | exact (Kd.C_below HR0_2.out HB.out) | (with_reducible refine Kd.C_alloc ?_ _) | (with_reducible refine Kd.C_drewN ?_ _) | (with_reducible refine Kd.C_drew ?_))); (case side2 => exact HC0_2.out); (case side3 => repeat (first | exact (Kd.C_below HR0_2.out HB.out) | (with_reducible refine Kd.C_alloc ?_ _) | (with_reducible refine Kd.C_drewN ?_ _) | (with_reducible refine Kd.C_drew ?_))); (case side4 => exact HC0_2.out); rintro e w84 ⟨rfl, hb⟩; replace BK232 := bkb BK232 hb; replace BK233 := bkb BK233 hb; replace BK241 := bkb BK241 hb; replace HB := bst hb; (try clear hb); (try clear hb2); (try clear hk); (try clear hi))))
         go_ret
         exact ⟨by first | rfl | (simp [errW_none, errW_some] <;> rfl) | (simp [*, errW_none, errW_some] <;> rfl), by repeat (first | (with_reducible first | exact HB.out | apply below_alloc | apply pw_below_drewN | apply below_drew1 | refine below_set ?_ GE232.out | refine below_set ?_ GE233.out | refine below_set ?_ GE241.out) | exact HB.out)⟩
        ·replace c69 := Bool.eq_false_iff.mpr c69
         subst c69
         have H1 : (some false) = some r := by rw [if_neg (show ¬ (false = true) by decide)] at H; exact H
         clear H
         have H := H1
         clear H1
         obtain rfl := Option.some.inj H
         have hnb85 := NB232_233.out
         have hnc85 := NB233_232.out
         obtain ⟨hcz86_0, hcz86_1, hcz86_2, hfz86_0, hfz86_1, hfz86_2⟩ := bc3 BK232
         go_wp2_with (first | ((with_reducible refine gate_dst (N := 7) rfl ?_); (try (refine gate_guard (by rfl) ?_; dsimp only)); refine bx 7 (cs := #[.bool false, .bool false, .slice none 0 0]) (t := 64) (h := ?_); intro gb241 hg w87 hbox hb; have BK241 := Aside0.mk hbox; have GW241 : Aside0 (w.heap.size ≤ gb241) := bge hg; have GE241 : Aside0 (w.heap.size ≤ gb241) := bge hg; have NB232_241 := bne BK232 hg; have NB241_232 := bnf BK232 hg; have NB233_241 := bne BK233 hg; have NB241_233 := bnf BK233 hg; replace BK232 := bkb BK232 hb; replace BK233 := bkb BK233 hb; replace HB := bst hb; clear hb hbox hg; have hnb88 := NB241_232.out; have hnc88 := NB232_241.out; have hnb89 := NB241_233.out; have hnc89 := NB233_241.out; obtain ⟨hcz90_0, hcz90_1, hcz90_2, hfz90_0, hfz90_1, hfz90_2⟩ := bc3 BK241; obtain ⟨hcz91_0, hcz91_1, hcz91_2, hfz91_0, hfz91_1, hfz91_2⟩ := bc3 BK232; obtain ⟨hcz92_0, hcz92_1, hcz92_2, hfz92_0, hfz92_1, hfz92_2⟩ := bc3 BK233) | (go_at_call 22; (with_reducible refine (lift_Same.calls k2 a0_0 a0_1 _ _ l0_2 a1_0 a1_1 _ _ l1_2 t242 _ ?side1 ?side2 ?side3 ?side4 A66.out).mono ?_); (case side1 => exact Kd.C_below HR0_2.out bel); (case side2 => exact HC0_2.out); (case side3 => exact Kd.C_below HR1_2.out bel); (case side4 => exact HC1_2.out); rintro e w93 ⟨rfl, hb⟩; replace BK232 := bkb BK232 hb; replace BK233 := bkb BK233 hb; replace BK241 := Aside0.mk (blk_below (g := gb241) (o := .cells #[.bool a0_0, .bool (!a0_1), .slice A0_2 l0_2.length c0_2] 64 (0, 0)) (bkp BK241) hb); replace HB := bst hb; (try clear hb); (try clear hb2); (try clear hk); (try clear hi); obtain ⟨hcz94_0, hcz94_1, hcz94_2, hfz94_0, hfz94_1, hfz94_2⟩ := bc3 BK232) | (go_at_call 22; (with_reducible refine (lift_Same.calls k2 a0_0 a0_1 _ _ l0_2 a0_0 a0_1 _ _ l0_2 false _ ?side1 ?side2 ?side3 ?side4 A68.out).mono ?_); (case side1 => repeat (first | exact (Kd.C_below HR0_2.out HB.out) | (with_reducible refine Kd.C_alloc ?_ _) | (with_reducible refine Kd.C_drewN ?_ _) | (with_reducible refine Kd.C_drew ?_))); (case side2 => exact HC0_2.out); (case side3 => repeat (first | exact (Kd.C_below HR0_2.out HB.out) | (with_reducible refine Kd.C_alloc ?_ _) | (with_reducible refine Kd.C_drewN ?_ _) | (with_reducible refine Kd.C_drew ?_))); (case side4 => exact HC0_2.out); rintro e w95 ⟨rfl, hb⟩; replace BK232 := bkb BK232 hb; replace BK233 := bkb BK233 hb; replace BK241 := bkb BK241 hb; replace HB := bst hb; (try clear hb); (try clear hb2); (try clear hk); (try clear hi)))
         repeat (go_quiet (first | ((with_reducible refine gate_dst (N := 7) rfl ?_); (try (refine gate_guard (by rfl) ?_; dsimp only)); refine bx 7 (cs := #[.bool false, .bool false, .slice none 0 0]) (t := 64) (h := ?_); intro gb241 hg w87 hbox hb; have BK241 := Aside0.mk hbox; have GW241 : Aside0 (w.heap.size ≤ gb241) := bge hg; have GE241 : Aside0 (w.heap.size ≤ gb241) := bge hg; have NB232_241 := bne BK232 hg; have NB241_232 := bnf BK232 hg; have NB233_241 := bne BK233 hg; have NB241_233 := bnf BK233 hg; replace BK232 := bkb BK232 hb; replace BK233 := bkb BK233 hb; replace HB := bst hb; clear hb hbox hg; have hnb88 := NB241_232.out; have hnc88 := NB232_241.out; have hnb89 := NB241_233.out; have hnc89 := NB233_241.out; obtain ⟨hcz90_0, hcz90_1, hcz90_2, hfz90_0, hfz90_1, hfz90_2⟩ := bc3 BK241; obtain ⟨hcz91_0, hcz91_1, hcz91_2, hfz91_0, hfz91_1, hfz91_2⟩ := bc3 BK232; obtain ⟨hcz92_0, hcz92_1, hcz92_2, hfz92_0, hfz92_1, hfz92_2⟩ := bc3 BK233) | (go_at_call 22; (with_reducible refine (lift_Same.calls k2 a0_0 a0_1 _ _ l0_2 a1_0 a1_1 _ _ l1_2 t242 _ ?side1 ?side2 ?side3 ?side4 A66.out).mono ?_); (case side1 => exact Kd.C_below HR0_2.out bel); (case side2 => exact HC0_2.out); (case side3 => exact Kd.C_below HR1_2.out bel); (case side4 => exact HC1_2.out); rintro e w93 ⟨rfl, hb⟩; replace BK232 := bkb BK232 hb; replace BK233 := bkb BK233 hb; replace BK241 := Aside0.mk (blk_below (g := gb241) (o := .cells #[.bool a0_0, .bool (!a0_1), .slice A0_2 l0_2.length c0_2] 64 (0, 0)) (bkp BK241) hb); replace HB := bst hb; (try clear hb); (try clear hb2); (try clear hk); (try clear hi); obtain ⟨hcz94_0, hcz94_1, hcz94_2, hfz94_0, hfz94_1, hfz94_2⟩ := bc3 BK232) | (go_at_call 22; (with_reducible refine (lift_Same.calls k2 a0_0 a0_1 _ _ l0_2 a0_0 a0_1 _ _ l0_2 false _ ?side1 ?side2 ?side3 ?side4 A68.out).mono ?_); (case side1 => repeat (first | exact (Kd.C_below HR0_2.out HB.out) | (with_reducible refine Kd.C_alloc ?_ _) | (with_reducible refine Kd.C_drewN ?_ _) | (with_reducible refine Kd.C_drew ?_))); (case side2 => exact HC0_2.out); (case side3 => repeat (first | exact (Kd.C_below HR0_2.out HB.out) | (with_reducible refine Kd.C_alloc ?_ _) | (with_reducible refine Kd.C_drewN ?_ _) | (with_reducible refine Kd.C_drew ?_))); (case side4 => exact HC0_2.out); rintro e w95 ⟨rfl, hb⟩; replace BK232 := bkb BK232 hb; replace BK233 := bkb BK233 hb; replace BK241 := bkb BK241 hb; replace HB := bst hb; (try clear hb); (try clear hb2); (try clear hk); (try clear hi))); try go_wp2_with (first | ((with_reducible refine gate_dst (N := 7) rfl ?_); (try (refine gate_guard (by rfl) ?_; dsimp only)); refine bx 7 (cs := #[.bool false, .bool false, .slice none 0 0]) (t := 64) (h := ?_); intro gb241 hg w87 hbox hb; have BK241 := Aside0.mk hbox; have GW241 : Aside0 (w.heap.size ≤ gb241) := bge hg; have GE241 : Aside0 (w.heap.size ≤ gb241) := bge hg; have NB232_241 := bne BK232 hg; have NB241_232 := bnf BK232 hg; have NB233_241 := bne BK233 hg; have NB241_233 := bnf BK233 hg; replace BK232 := bkb BK232 hb; replace BK233 := bkb BK233 hb; replace HB := bst hb; clear hb hbox hg; have hnb88 := NB241_232.out; have hnc88 := NB232_241.out; have hnb89 := NB241_233.out; have hnc89 := NB233_241.out; obtain ⟨hcz90_0, hcz90_1, hcz90_2, hfz90_0, hfz90_1, hfz90_2⟩ := bc3 BK241; obtain ⟨hcz91_0, hcz91_1, hcz91_2, hfz91_0, hfz91_1, hfz91_2⟩ := bc3 BK232; obtain ⟨hcz92_0, hcz92_1, hcz92_2, hfz92_0, hfz92_1, hfz92_2⟩ := bc3 BK233) | (go_at_call 22; (with_reducible refine (lift_Same.calls k2 a0_0 a0_1 _ _ l0_2 a1_0 a1_1 _ _ l1_2 t242 _ ?side1 ?side2 ?side3 ?side4 A66.out).mono ?_); (case side1 => exact Kd.C_below HR0_2.out bel); (case side2 => exact HC0_2.out); (case side3 => exact Kd.C_below HR1_2.out bel); (case side4 => exact HC1_2.out); rintro e w93 ⟨rfl, hb⟩; replace BK232 := bkb BK232 hb; replace BK233 := bkb BK233 hb; replace BK241 := Aside0.mk (blk_below (g := gb241) (o := .cells #[.bool a0_0, .bool (!a0_1), .slice A0_2 l0_2.length c0_2] 64 (0, 0)) (bkp BK241) hb); replace HB := bst hb; (try clear hb); (try clear hb2); (try clear hk); (try clear hi); obtain ⟨hcz94_0, hcz94_1, hcz94_2, hfz94_0, hfz94_1, hfz94_2⟩ := bc3 BK232) | (go_at_call 22; (with_reducible refine (lift_Same.calls k2 a0_0 a0_1 _ _ l0_2 a0_0 a0_1 _ _ l0_2 false _ ?side1 ?side2 ?side3 ?side4 A68.out).mono ?_); (case side1 => repeat (first | exact (Kd.C_below HR0_2.out HB.out) | (with_reducible refine Kd.C_alloc ?_ _) | (with_reducible refine Kd.C_drewN ?_ _) | (with_reducible refine Kd.C_drew ?_))); (case side2 => exact HC0_2.out); (case side3 => repeat (first | exact (Kd.C_below HR0_2.out HB.out) | (with_reducible refine Kd.C_alloc ?_ _) | (with_reducible refine Kd.C_drewN ?_ _) | (with_reducible refine Kd.C_drew ?_))); (case side4 => exact HC0_2.out); rintro e w95 ⟨rfl, hb⟩; replace BK232 := bkb BK232 hb; replace BK233 := bkb BK233 hb; replace BK241 := bkb BK241 hb; replace HB := bst hb; (try clear hb); (try clear hb2); (try clear hk); (try clear hi))))
         go_ret
         exact ⟨by first | rfl | (simp [errW_none, errW_some] <;> rfl) | (simp [*, errW_none, errW_some] <;> rfl), by repeat (first | (with_reducible first | exact HB.out | apply below_alloc | apply pw_below_drewN | apply below_drew1 | refine below_set ?_ GE232.out | refine below_set ?_ GE233.out | refine below_set ?_ GE241.out) | exact HB.out)⟩
       ·rw [if_neg c67] at H
        have c67b0 : (t242 == false) = false := by simpa using c67
        (try (have c67b1 : decide (t242 = false) = false := by simpa using c67))
        (try (have c67b2 : (t242 == false) = false := by simpa using c67))
        (try (have c67b3 : ¬ (t242 = false) := by simpa using c67))
        clear c67
        obtain rfl := Option.some.inj H
        have hnb96 := NB232_233.out
        have hnc96 := NB233_232.out
        obtain ⟨hcz97_0, hcz97_1, hcz97_2, hfz97_0, hfz97_1, hfz97_2⟩ := bc3 BK232
        go_wp2_with (first | ((with_reducible refine gate_dst (N := 7) rfl ?_); (try (refine gate_guard (by rfl) ?_; dsimp only)); refine bx 7 (cs := #[.bool false, .bool false, .slice none 0 0]) (t := 64) (h := ?_); intro gb241 hg w98 hbox hb; have BK241 := Aside0.mk hbox; have GW241 : Aside0 (w.heap.size ≤ gb241) := bge hg; have GE241 : Aside0 (w.heap.size ≤ gb241) := bge hg; have NB232_241 := bne BK232 hg; have NB241_232 := bnf BK232 hg; have NB233_241 := bne BK233 hg; have NB241_233 := bnf BK233 hg; replace BK232 := bkb BK232 hb; replace BK233 := bkb BK233 hb; replace HB := bst hb; clear hb hbox hg; have hnb99 := NB241_232.out; have hnc99 := NB232_241.out; have hnb100 := NB241_233.out; have hnc100 := NB233_241.out; obtain ⟨hcz101_0, hcz101_1, hcz101_2, hfz101_0, hfz101_1, hfz101_2⟩ := bc3 BK241; obtain ⟨hcz102_0, hcz102_1, hcz102_2, hfz102_0, hfz102_1, hfz102_2⟩ := bc3 BK232; obtain ⟨hcz103_0, hcz103_1, hcz103_2, hfz103_0, hfz103_1, hfz103_2⟩ := bc3 BK233) | (go_at_call 22; (with_reducible refine (lift_Same.calls k2 a0_0 a0_1 _ _ l0_2 a1_0 a1_1 _ _ l1_2 t242 _ ?side1 ?side2 ?side3 ?side4 A66.out).mono ?_); (case side1 => exact Kd.C_below HR0_2.out bel); (case side2 => exact HC0_2.out); (case side3 => exact Kd.C_below HR1_2.out bel); (case side4 => exact HC1_2.out); rintro e w104 ⟨rfl, hb⟩; replace BK232 := bkb BK232 hb; replace BK233 := bkb BK233 hb; replace BK241 := Aside0.mk (blk_below (g := gb241) (o := .cells #[.bool a0_0, .bool (!a0_1), .slice A0_2 l0_2.length c0_2] 64 (0, 0)) (bkp BK241) hb); replace HB := bst hb; (try clear hb); (try clear hb2); (try clear hk); (try clear hi)))
        repeat (go_quiet (first | ((with_reducible refine gate_dst (N := 7) rfl ?_); (try (refine gate_guard (by rfl) ?_; dsimp only)); refine bx 7 (cs := #[.bool false, .bool false, .slice none 0 0]) (t := 64) (h := ?_); intro gb241 hg w98 hbox hb; have BK241 := Aside0.mk hbox; have GW241 : Aside0 (w.heap.size ≤ gb241) := bge hg; have GE241 : Aside0 (w.heap.size ≤ gb241) := bge hg; have NB232_241 := bne BK232 hg; have NB241_232 := bnf BK232 hg; have NB233_241 := bne BK233 hg; have NB241_233 := bnf BK233 hg; replace BK232 := bkb BK232 hb; replace BK233 := bkb BK233 hb; replace HB := bst hb; clear hb hbox hg; have hnb99 := NB241_232.out; have hnc99 := NB232_241.out; have hnb100 := NB241_233.out; have hnc100 := NB233_241.out; obtain ⟨hcz101_0, hcz101_1, hcz101_2, hfz101_0, hfz101_1, hfz101_2⟩ := bc3 BK241; obtain ⟨hcz102_0, hcz102_1, hcz102_2, hfz102_0, hfz102_1, hfz102_2⟩ := bc3 BK232; obtain ⟨hcz103_0, hcz103_1, hcz103_2, hfz103_0, hfz103_1, hfz103_2⟩ := bc3 BK233) | (go_at_call 22; (with_reducible refine (lift_Same.calls k2 a0_0 a0_1 _ _ l0_2 a1_0 a1_1 _ _ l1_2 t242 _ ?side1 ?side2 ?side3 ?side4 A66.out).mono ?_); (case side1 => exact Kd.C_below HR0_2.out bel); (case side2 => exact HC0_2.out); (case side3 => exact Kd.C_below HR1_2.out bel); (case side4 => exact HC1_2.out); rintro e w104 ⟨rfl, hb⟩; replace BK232 := bkb BK232 hb; replace BK233 := bkb BK233 hb; replace BK241 := Aside0.mk (blk_below (g := gb241) (o := .cells #[.bool a0_0, .bool (!a0_1), .slice A0_2 l0_2.length c0_2] 64 (0, 0)) (bkp BK241) hb); replace HB := bst hb; (try clear hb); (try clear hb2); (try clear hk); (try clear hi))); try go_wp2_with (first | ((with_reducible refine gate_dst (N := 7) rfl ?_); (try (refine gate_guard (by rfl) ?_; dsimp only)); refine bx 7 (cs := #[.bool false, .bool false, .slice none 0 0]) (t := 64) (h := ?_); intro gb241 hg w98 hbox hb; have BK241 := Aside0.mk hbox; have GW241 : Aside0 (w.heap.size ≤ gb241) := bge hg; have GE241 : Aside0 (w.heap.size ≤ gb241) := bge hg; have NB232_241 := bne BK232 hg; have NB241_232 := bnf BK232 hg; have NB233_241 := bne BK233 hg; have NB241_233 := bnf BK233 hg; replace BK232 := bkb BK232 hb; replace BK233 := bkb BK233 hb; replace HB := bst hb; clear hb hbox hg; have hnb99 := NB241_232.out; have hnc99 := NB232_241.out; have hnb100 := NB241_233.out; have hnc100 := NB233_241.out; obtain ⟨hcz101_0, hcz101_1, hcz101_2, hfz101_0, hfz101_1, hfz101_2⟩ := bc3 BK241; obtain ⟨hcz102_0, hcz102_1, hcz102_2, hfz102_0, hfz102_1, hfz102_2⟩ := bc3 BK232; obtain ⟨hcz103_0, hcz103_1, hcz103_2, hfz103_0, hfz103_1, hfz103_2⟩ := bc3 BK233) | (go_at_call 22; (with_reducible refine (lift_Same.calls k2 a0_0 a0_1 _ _ l0_2 a1_0 a1_1 _ _ l1_2 t242 _ ?side1 ?side2 ?side3 ?side4 A66.out).mono ?_); (case side1 => exact Kd.C_below HR0_2.out bel); (case side2 => exact HC0_2.out); (case side3 => exact Kd.C_below HR1_2.out bel); (case side4 => exact HC1_2.out); rintro e w104 ⟨rfl, hb⟩; replace BK232 := bkb BK232 hb; replace BK233 := bkb BK233 hb; replace BK241 := Aside0.mk (blk_below (g := gb241) (o := .cells #[.bool a0_0, .bool (!a0_1), .slice A0_2 l0_2.length c0_2] 64 (0, 0)) (bkp BK241) hb); replace HB := bst hb; (try clear hb); (try clear hb2); (try clear hk); (try clear hi))))
        go_ret
        exact ⟨by first | rfl | (simp [errW_none, errW_some] <;> rfl) | (simp [*, errW_none, errW_some] <;> rfl), by repeat (first | (with_reducible first | exact HB.out | apply below_alloc | apply pw_below_drewN | apply below_drew1 | refine below_set ?_ GE232.out | refine below_set ?_ GE233.out | refine below_set ?_ GE241.out) | exact HB.out)⟩
 ·replace c4 := Bool.eq_false_iff.mpr c4
  subst c4
  have H1 : (some false) = some r := by rw [if_neg (show ¬ (false = true) by decide)] at H; exact H
  clear H
  have H := H1
  clear H1
  obtain rfl := Option.some.inj H
  go_enter Try.func6, Try.ntmps6
  go_wp2_with (first | ((with_reducible refine gate_dst (N := 2) rfl ?_); (try (refine gate_guard (by rfl) ?_; dsimp only)); refine bx 2 (cs := #[.bool a0_0, .bool a0_1, .slice A0_2 l0_2.length c0_2]) (t := 64) (h := ?_); intro gb232 hg w105 hbox hb; have BK232 := Aside0.mk hbox; have GW232 : Aside0 (w.heap.size ≤ gb232) := bge hg; have GE232 : Aside0 (w.heap.size ≤ gb232) := bge hg; replace HB := bst hb; clear hb hbox hg) | ((with_reducible refine gate_dst (N := 3) rfl ?_); (try (refine gate_guard (by rfl) ?_; dsimp only)); refine bx 3 (cs := #[.bool a1_0, .bool a1_1, .slice A1_2 l1_2.length c1_2]) (t := 64) (h := ?_); intro gb233 hg w106 hbox hb; have BK233 := Aside0.mk hbox; have GW233 : Aside0 (w.heap.size ≤ gb233) := bge hg; have GE233 : Aside0 (w.heap.size ≤ gb233) := bge hg; have NB232_233 := bne BK232 hg; have NB233_232 := bnf BK232 hg; replace BK232 := bkb BK232 hb; replace HB := bst hb; clear hb hbox hg) | (go_at_call 20; (with_reducible refine (maquettelaw23_awake.calls k  false _ A3.out).mono ?_); rintro e w107 ⟨rfl, hb⟩; replace BK232 := bkb BK232 hb; replace BK233 := bkb BK233 hb; replace HB := bst hb; (try clear hb); (try clear hb2); (try clear hk); (try clear hi)))
  repeat (go_quiet (first | ((with_reducible refine gate_dst (N := 2) rfl ?_); (try (refine gate_guard (by rfl) ?_; dsimp only)); refine bx 2 (cs := #[.bool a0_0, .bool a0_1, .slice A0_2 l0_2.length c0_2]) (t := 64) (h := ?_); intro gb232 hg w105 hbox hb; have BK232 := Aside0.mk hbox; have GW232 : Aside0 (w.heap.size ≤ gb232) := bge hg; have GE232 : Aside0 (w.heap.size ≤ gb232) := bge hg; replace HB := bst hb; clear hb hbox hg) | ((with_reducible refine gate_dst (N := 3) rfl ?_); (try (refine gate_guard (by rfl) ?_; dsimp only)); refine bx 3 (cs := #[.bool a1_0, .bool a1_1, .slice A1_2 l1_2.length c1_2]) (t := 64) (h := ?_); intro gb233 hg w106 hbox hb; have BK233 := Aside0.mk hbox; have GW233 : Aside0 (w.heap.size ≤ gb233) := bge hg; have GE233 : Aside0 (w.heap.size ≤ gb233) := bge hg; have NB232_233 := bne BK232 hg; have NB233_232 := bnf BK232 hg; replace BK232 := bkb BK232 hb; replace HB := bst hb; clear hb hbox hg) | (go_at_call 20; (with_reducible refine (maquettelaw23_awake.calls k  false _ A3.out).mono ?_); rintro e w107 ⟨rfl, hb⟩; replace BK232 := bkb BK232 hb; replace BK233 := bkb BK233 hb; replace HB := bst hb; (try clear hb); (try clear hb2); (try clear hk); (try clear hi))); try go_wp2_with (first | ((with_reducible refine gate_dst (N := 2) rfl ?_); (try (refine gate_guard (by rfl) ?_; dsimp only)); refine bx 2 (cs := #[.bool a0_0, .bool a0_1, .slice A0_2 l0_2.length c0_2]) (t := 64) (h := ?_); intro gb232 hg w105 hbox hb; have BK232 := Aside0.mk hbox; have GW232 : Aside0 (w.heap.size ≤ gb232) := bge hg; have GE232 : Aside0 (w.heap.size ≤ gb232) := bge hg; replace HB := bst hb; clear hb hbox hg) | ((with_reducible refine gate_dst (N := 3) rfl ?_); (try (refine gate_guard (by rfl) ?_; dsimp only)); refine bx 3 (cs := #[.bool a1_0, .bool a1_1, .slice A1_2 l1_2.length c1_2]) (t := 64) (h := ?_); intro gb233 hg w106 hbox hb; have BK233 := Aside0.mk hbox; have GW233 : Aside0 (w.heap.size ≤ gb233) := bge hg; have GE233 : Aside0 (w.heap.size ≤ gb233) := bge hg; have NB232_233 := bne BK232 hg; have NB233_232 := bnf BK232 hg; replace BK232 := bkb BK232 hb; replace HB := bst hb; clear hb hbox hg) | (go_at_call 20; (with_reducible refine (maquettelaw23_awake.calls k  false _ A3.out).mono ?_); rintro e w107 ⟨rfl, hb⟩; replace BK232 := bkb BK232 hb; replace BK233 := bkb BK233 hb; replace HB := bst hb; (try clear hb); (try clear hb2); (try clear hk); (try clear hi))))
  go_ret
  exact ⟨by first | rfl | (simp [errW_none, errW_some] <;> rfl) | (simp [*, errW_none, errW_some] <;> rfl), by repeat (first | (with_reducible first | exact HB.out | apply below_alloc | apply pw_below_drewN | apply below_drew1 | refine below_set ?_ GE232.out | refine below_set ?_ GE233.out) | exact HB.out)⟩

end Go.Proofs.Ytkhbpjhlekldpaa.PLift
