-- Written by wip/xprint.py of this work: the printer of the kit, with contracts of this work beside it, shortened.
import Derived.Test.YtkhbpjhlekldpaaShort
import Derived.Test.YtkhbpjhlekldpaaPLiftx0
namespace Go.Proofs.Ytkhbpjhlekldpaa.PLift
open Go.RowKit Go.Proofs.Ytkhbpjhlekldpaa.Short Go.Proofs.YtkhbpjhlekldpaaW.PrintWords Go.Proofs.YtkhbpjhlekldpaaW.PrintLast Go.Proofs.YtkhbpjhlekldpaaW.PrintMore
attribute [local go_sem] max2_int min2_int max_two min_two max_three min_three max_four min_four   -- for this text's walks alone
set_option linter.unusedVariables false
set_option linter.unusedSimpArgs false

/-! ### lift_Same: function 22 -/
mutual
def lift_Same.j0 : Nat → Bool → Bool → Bool → List Int → Bool → Bool → List Int → Option (Bool)
 | 0, _, _, _, _, _, _, _ => none
 | k + 1, x26, x214000, x214001, x214002, x215000, x215001, x215002 => if x26 = true then (some false) else (lift_Same.l0 k (x214002.length : Int) 0 x214000 x214001 x214002 x215000 x215001 x215002)
def lift_Same.l0 : Nat → Int → Int → Bool → Bool → List Int → Bool → Bool → List Int → Option (Bool)
 | 0, _, _, _, _, _, _, _, _ => none
 | k + 1, x29, x30, x214000, x214001, x214002, x215000, x215001, x215002 => if x30 < x29 then (if 0 ≤ x30 then (if x30 < (x214002.length : Int) then (if x30 < (x215002.length : Int) then (if (rd x214002 x30) = (rd x215002 x30) then (lift_Same.l0 k x29 (wrap64 (x30 + 1)) x214000 x214001 x214002 x215000 x215001 x215002) else (some false)) else (none)) else (none)) else (none)) else (some true)
end
def lift_Same.f (k : Nat) (a0_0 : Bool) (a0_1 : Bool) (l0_2 : List Int) (a1_0 : Bool) (a1_1 : Bool) (l1_2 : List Int) : Option (Bool) := if (a0_0 != a1_0) = true then (lift_Same.j0 k true a0_0 a0_1 l0_2 a1_0 a1_1 l1_2) else (if (a0_1 != a1_1) = true then (lift_Same.j0 k true a0_0 a0_1 l0_2 a1_0 a1_1 l1_2) else (lift_Same.j0 k ((l0_2.length : Int) != (l1_2.length : Int)) a0_0 a0_1 l0_2 a1_0 a1_1 l1_2))
theorem lift_Same.mono_l : ∀ k, (∀ y0 y1 y2 y3 y4 y5 y6, LeO (lift_Same.j0 k y0 y1 y2 y3 y4 y5 y6) (lift_Same.j0 (k + 1) y0 y1 y2 y3 y4 y5 y6)) ∧ (∀ y0 y1 y2 y3 y4 y5 y6 y7, LeO (lift_Same.l0 k y0 y1 y2 y3 y4 y5 y6 y7) (lift_Same.l0 (k + 1) y0 y1 y2 y3 y4 y5 y6 y7))
 | 0 => ⟨fun _ _ _ _ _ _ _ r h => by simp [lift_Same.j0] at h, fun _ _ _ _ _ _ _ _ r h => by simp [lift_Same.l0] at h⟩
 | k + 1 => by
  obtain ⟨ih0, ih1⟩ := lift_Same.mono_l k
  refine ⟨?_, ?_⟩
  ·intro y0 y1 y2 y3 y4 y5 y6
   unfold lift_Same.j0
   repeat' first
   | (with_reducible exact ih0 _ _ _ _ _ _ _)
   | (with_reducible exact ih1 _ _ _ _ _ _ _ _)
   | (with_reducible exact LeO.refl _)
   | (with_reducible exact LeO.none _)
   | (with_reducible refine LeO.ite ?_ ?_)
   | (with_reducible refine LeO.bind ?_ (fun _ => ?_))
   | exact ih0 _ _ _ _ _ _ _
   | exact ih1 _ _ _ _ _ _ _ _
   | exact LeO.none _
   | refine LeO.ite ?_ ?_
   | refine LeO.bind ?_ (fun _ => ?_)
  ·intro y0 y1 y2 y3 y4 y5 y6 y7
   unfold lift_Same.l0
   repeat' first
   | (with_reducible exact ih0 _ _ _ _ _ _ _)
   | (with_reducible exact ih1 _ _ _ _ _ _ _ _)
   | (with_reducible exact LeO.refl _)
   | (with_reducible exact LeO.none _)
   | (with_reducible refine LeO.ite ?_ ?_)
   | (with_reducible refine LeO.bind ?_ (fun _ => ?_))
   | exact ih0 _ _ _ _ _ _ _
   | exact ih1 _ _ _ _ _ _ _ _
   | exact LeO.none _
   | refine LeO.ite ?_ ?_
   | refine LeO.bind ?_ (fun _ => ?_)
theorem lift_Same.mono : ∀ a0 a1 a2 a3 a4 a5 k, LeO (lift_Same.f k a0 a1 a2 a3 a4 a5) (lift_Same.f (k + 1) a0 a1 a2 a3 a4 a5) := by
 intro a0 a1 a2 a3 a4 a5 k
 obtain ⟨ih0, ih1⟩ := lift_Same.mono_l k
 unfold lift_Same.f
 repeat' first
   | (with_reducible exact ih0 _ _ _ _ _ _ _)
   | (with_reducible exact ih1 _ _ _ _ _ _ _ _)
   | (with_reducible exact LeO.refl _)
   | (with_reducible exact LeO.none _)
   | (with_reducible refine LeO.ite ?_ ?_)
   | (with_reducible refine LeO.bind ?_ (fun _ => ?_))
   | exact ih0 _ _ _ _ _ _ _
   | exact ih1 _ _ _ _ _ _ _ _
   | exact LeO.none _
   | refine LeO.ite ?_ ?_
   | refine LeO.bind ?_ (fun _ => ?_)
set_option maxHeartbeats 8000000 in
set_option maxRecDepth 100000 in
theorem lift_Same.calls (k : Nat) (a0_0 : Bool) (a0_1 : Bool) (A0_2 : Option Addr) (c0_2 : Nat) (l0_2 : List Int) (a1_0 : Bool) (a1_1 : Bool) (A1_2 : Option Addr) (c1_2 : Nat) (l1_2 : List Int) (r : Bool) (w : World) (hr0_2 : Kd.C (Kd.int .i64) w A0_2 l0_2.length l0_2) (hc0_2 : l0_2.length ≤ c0_2) (hr1_2 : Kd.C (Kd.int .i64) w A1_2 l1_2.length l1_2) (hc1_2 : l1_2.length ≤ c1_2) (h : lift_Same.f k a0_0 a0_1 l0_2 a1_0 a1_1 l1_2 = some r) :
  Calls Try.prog 22 #[.agg #[.bool a0_0, .bool a0_1, .slice A0_2 l0_2.length c0_2], .agg #[.bool a1_0, .bool a1_1, .slice A1_2 l1_2.length c1_2]] w fun e w' => e = .returned (.bool r) ∧ Below w.heap.size w w' := by
 have hu64 := Try.underlying64
 have HR0_2 := Aside0.mk hr0_2
 have HC0_2 := Aside0.mk hc0_2
 clear hr0_2 hc0_2
 have HR1_2 := Aside0.mk hr1_2
 have HC1_2 := Aside0.mk hc1_2
 clear hr1_2 hc1_2
 have HB := Aside0.mk (Below.refl w.heap.size w)
 have H : (if (a0_0 != a1_0) = true then (lift_Same.j0 k true a0_0 a0_1 l0_2 a1_0 a1_1 l1_2) else (if (a0_1 != a1_1) = true then (lift_Same.j0 k true a0_0 a0_1 l0_2 a1_0 a1_1 l1_2) else (lift_Same.j0 k ((l0_2.length : Int) != (l1_2.length : Int)) a0_0 a0_1 l0_2 a1_0 a1_1 l1_2))) = some r := h
 clear h
 have HC3 := Aside0.mk H
 clear H
 go_enter Try.func22, Try.ntmps22
 go_upto_region 1 with (first | ((with_reducible refine gate_dst (N := 2) rfl ?_); (try (refine gate_guard (by rfl) ?_; dsimp only)); refine bx 2 (cs := #[.bool a0_0, .bool a0_1, .slice A0_2 l0_2.length c0_2]) (t := 64) (h := ?_); intro gb213 hg w4 hbox hb; have BK213 := Aside0.mk hbox; have GW213 : Aside0 (w.heap.size ≤ gb213) := bge hg; have GE213 : Aside0 (w.heap.size ≤ gb213) := bge hg; replace HB := bst hb; clear hb hbox hg) | ((with_reducible refine gate_dst (N := 3) rfl ?_); (try (refine gate_guard (by rfl) ?_; dsimp only)); refine bx 3 (cs := #[.bool a1_0, .bool a1_1, .slice A1_2 l1_2.length c1_2]) (t := 64) (h := ?_); intro gb214 hg w5 hbox hb; have BK214 := Aside0.mk hbox; have GW214 : Aside0 (w.heap.size ≤ gb214) := bge hg; have GE214 : Aside0 (w.heap.size ≤ gb214) := bge hg; have NB213_214 := bne BK213 hg; have NB214_213 := bnf BK213 hg; replace BK213 := bkb BK213 hb; replace HB := bst hb; clear hb hbox hg))
 repeat (go_quiet (first | ((with_reducible refine gate_dst (N := 2) rfl ?_); (try (refine gate_guard (by rfl) ?_; dsimp only)); refine bx 2 (cs := #[.bool a0_0, .bool a0_1, .slice A0_2 l0_2.length c0_2]) (t := 64) (h := ?_); intro gb213 hg w4 hbox hb; have BK213 := Aside0.mk hbox; have GW213 : Aside0 (w.heap.size ≤ gb213) := bge hg; have GE213 : Aside0 (w.heap.size ≤ gb213) := bge hg; replace HB := bst hb; clear hb hbox hg) | ((with_reducible refine gate_dst (N := 3) rfl ?_); (try (refine gate_guard (by rfl) ?_; dsimp only)); refine bx 3 (cs := #[.bool a1_0, .bool a1_1, .slice A1_2 l1_2.length c1_2]) (t := 64) (h := ?_); intro gb214 hg w5 hbox hb; have BK214 := Aside0.mk hbox; have GW214 : Aside0 (w.heap.size ≤ gb214) := bge hg; have GE214 : Aside0 (w.heap.size ≤ gb214) := bge hg; have NB213_214 := bne BK213 hg; have NB214_213 := bnf BK213 hg; replace BK213 := bkb BK213 hb; replace HB := bst hb; clear hb hbox hg)); go_upto_region 1 with (first | ((with_reducible refine gate_dst (N := 2) rfl ?_); (try (refine gate_guard (by rfl) ?_; dsimp only)); refine bx 2 (cs := #[.bool a0_0, .bool a0_1, .slice A0_2 l0_2.length c0_2]) (t := 64) (h := ?_); intro gb213 hg w4 hbox hb; have BK213 := Aside0.mk hbox; have GW213 : Aside0 (w.heap.size ≤ gb213) := bge hg; have GE213 : Aside0 (w.heap.size ≤ gb213) := bge hg; replace HB := bst hb; clear hb hbox hg) | ((with_reducible refine gate_dst (N := 3) rfl ?_); (try (refine gate_guard (by rfl) ?_; dsimp only)); refine bx 3 (cs := #[.bool a1_0, .bool a1_1, .slice A1_2 l1_2.length c1_2]) (t := 64) (h := ?_); intro gb214 hg w5 hbox hb; have BK214 := Aside0.mk hbox; have GW214 : Aside0 (w.heap.size ≤ gb214) := bge hg; have GE214 : Aside0 (w.heap.size ≤ gb214) := bge hg; have NB213_214 := bne BK213 hg; have NB214_213 := bnf BK213 hg; replace BK213 := bkb BK213 hb; replace HB := bst hb; clear hb hbox hg)))
 (try simp only [Act.put, List.setIfInBounds_toArray, List.set_cons_zero, List.set_cons_succ])
 go_cut [26] (fun v26 wc => ∃ (kq : Nat) (x26_2 : Bool), v26 = .bool x26_2 ∧ Aside0 (lift_Same.j0 kq x26_2 a0_0 a0_1 l0_2 a1_0 a1_1 l1_2 = some r) ∧ Aside0 (kq ≤ k) ∧ Aside0 (wc.heap[gb213]? = some (.cells #[.bool a0_0, .bool a0_1, (.slice A0_2 l0_2.length c0_2)] 64 (0, 0))) ∧ Aside0 (wc.heap[gb214]? = some (.cells #[.bool a1_0, .bool a1_1, (.slice A1_2 l1_2.length c1_2)] 64 (0, 0))) ∧ Aside0 (Below w.heap.size w wc))
 case first =>
  have H := HC3.out
  clear HC3
  by_cases c6 : (a0_0 != a1_0) = true
  ·rw [if_pos c6] at H
   have c6b0 : (a0_0 != a1_0) = true := c6
   (try (have c6b1 : decide (a0_0 = a1_0) = false := by simpa using c6))
   (try (have c6b2 : (a0_0 == a1_0) = false := by simpa using c6))
   (try (have c6b3 : ¬ (a0_0 = a1_0) := by simpa using c6))
   clear c6
   (first | rw [c6b0] | (simp only [i64_w, i32_w]; rw [c6b0]) | skip)
   have H' := Aside0.mk H
   clear H
   have hnb7 := NB213_214.out
   have hnc7 := NB214_213.out
   obtain ⟨hcz8_0, hcz8_1, hcz8_2, hfz8_0, hfz8_1, hfz8_2⟩ := bc3 BK213
   obtain ⟨hcz9_0, hcz9_1, hcz9_2, hfz9_0, hfz9_1, hfz9_2⟩ := bc3 BK214
   go_wp2
   repeat (go_quiet (fail); try go_wp2)
   go_meet
   case rel => exact ⟨_, (true), (by first | rfl | (simp; done) | (simp [*]; done)), H', ⟨by first | omega | exact Nat.le_refl _⟩, ⟨bkq BK213⟩, ⟨bkq BK214⟩, ⟨by repeat (first | (with_reducible first | exact HB.out | apply below_alloc | apply pw_below_drewN | apply below_drew1 | refine below_set ?_ GE213.out | refine below_set ?_ GE214.out) | exact HB.out)⟩⟩
  ·rw [if_neg c6] at H
   have c6b0 : (a0_0 != a1_0) = false := by simpa using c6
   (try (have c6b1 : decide (a0_0 = a1_0) = true := by simpa using c6))
   (try (have c6b2 : (a0_0 == a1_0) = true := by simpa using c6))
   clear c6
   (first | rw [c6b0] | (simp only [i64_w, i32_w]; rw [c6b0]) | skip)
   by_cases c10 : (a0_1 != a1_1) = true
   ·rw [if_pos c10] at H
    have c10b0 : (a0_1 != a1_1) = true := c10
    (try (have c10b1 : decide (a0_1 = a1_1) = false := by simpa using c10))
    (try (have c10b2 : (a0_1 == a1_1) = false := by simpa using c10))
    (try (have c10b3 : ¬ (a0_1 = a1_1) := by simpa using c10))
    clear c10
    have H' := Aside0.mk H
    clear H
    have hnb11 := NB213_214.out
    have hnc11 := NB214_213.out
    obtain ⟨hcz12_0, hcz12_1, hcz12_2, hfz12_0, hfz12_1, hfz12_2⟩ := bc3 BK213
    obtain ⟨hcz13_0, hcz13_1, hcz13_2, hfz13_0, hfz13_1, hfz13_2⟩ := bc3 BK214
    go_wp2
    repeat (go_quiet (fail); try go_wp2)
    go_meet
    case rel => exact ⟨_, (true), (by first | rfl | (simp; done) | (simp [*]; done)), H', ⟨by first | omega | exact Nat.le_refl _⟩, ⟨bkq BK213⟩, ⟨bkq BK214⟩, ⟨by repeat (first | (with_reducible first | exact HB.out | apply below_alloc | apply pw_below_drewN | apply below_drew1 | refine below_set ?_ GE213.out | refine below_set ?_ GE214.out) | exact HB.out)⟩⟩
   ·rw [if_neg c10] at H
    have c10b0 : (a0_1 != a1_1) = false := by simpa using c10
    (try (have c10b1 : decide (a0_1 = a1_1) = true := by simpa using c10))
    (try (have c10b2 : (a0_1 == a1_1) = true := by simpa using c10))
    clear c10
    have H' := Aside0.mk H
    clear H
    have hnb14 := NB213_214.out
    have hnc14 := NB214_213.out
    obtain ⟨hcz15_0, hcz15_1, hcz15_2, hfz15_0, hfz15_1, hfz15_2⟩ := bc3 BK213
    obtain ⟨hcz16_0, hcz16_1, hcz16_2, hfz16_0, hfz16_1, hfz16_2⟩ := bc3 BK214
    go_wp2
    repeat (go_quiet (fail); try go_wp2)
    go_meet
    case rel => exact ⟨_, (((l0_2.length : Int) != (l1_2.length : Int))), (by first | rfl | (simp; done) | (simp [*]; done)), H', ⟨by first | omega | exact Nat.le_refl _⟩, ⟨bkq BK213⟩, ⟨bkq BK214⟩, ⟨by repeat (first | (with_reducible first | exact HB.out | apply below_alloc | apply pw_below_drewN | apply below_drew1 | refine below_set ?_ GE213.out | refine below_set ?_ GE214.out) | exact HB.out)⟩⟩
 case rest =>
  clear HC3
  try clear c1
  try clear c2
  try clear p2
  try clear c6
  try clear c6b0
  try clear c6b1
  try clear c6b2
  try clear c7
  try clear c10
  try clear c10b0
  try clear c10b1
  try clear c10b2
  try clear c11
  try clear c14
  try clear hcz12_0 hcz12_1 hcz12_2 hfz12_0 hfz12_1 hfz12_2
  try clear hcz13_0 hcz13_1 hcz13_2 hfz13_0 hfz13_1 hfz13_2
  try clear hcz15_0 hcz15_1 hcz15_2 hfz15_0 hfz15_1 hfz15_2
  try clear hcz16_0 hcz16_1 hcz16_2 hfz16_0 hfz16_1 hfz16_2
  try clear hcz8_0 hcz8_1 hcz8_2 hfz8_0 hfz8_1 hfz8_2
  try clear hcz9_0 hcz9_1 hcz9_2 hfz9_0 hfz9_1 hfz9_2
  obtain ⟨kq, x26_2, rfl, HA, HJ2, BK213, BK214, HB⟩ := hcut
  cases kq with
  | zero => exact absurd HA.out (by simp [lift_Same.j0])
  | succ kj2 =>
   have H := HA.out
   clear HA
   simp only [lift_Same.j0] at H
   by_cases c17 : x26_2 = true
   ·subst c17
    have H1 : (some false) = some r := by rw [if_pos rfl] at H; exact H
    clear H
    have H := H1
    clear H1
    obtain rfl := Option.some.inj H
    go_wp2
    repeat (go_quiet (fail); try go_wp2)
    go_ret
    exact ⟨by first | rfl | (simp [errW_none, errW_some] <;> rfl) | (simp [*, errW_none, errW_some] <;> rfl), by repeat (first | (with_reducible first | exact HB.out | apply below_alloc | apply pw_below_drewN | apply below_drew1 | refine below_set ?_ GE213.out | refine below_set ?_ GE214.out) | exact HB.out)⟩
   ·replace c17 := Bool.eq_false_iff.mpr c17
    subst c17
    have H1 : (lift_Same.l0 kj2 (l0_2.length : Int) 0 a0_0 a0_1 l0_2 a1_0 a1_1 l1_2) = some r := by rw [if_neg (show ¬ (false = true) by decide)] at H; exact H
    clear H
    have H := H1
    clear H1
    have H' := Aside0.mk H
    clear H
    have hnb18 := NB213_214.out
    have hnc18 := NB214_213.out
    obtain ⟨hcz19_0, hcz19_1, hcz19_2, hfz19_0, hfz19_1, hfz19_2⟩ := bc3 BK213
    go_wp2
    repeat (go_quiet (fail); try go_wp2)
    go_loopg [30] kj2 (fun kq v30 w' => ∃ (x30_2 : Int), v30 = .int .i64 x30_2 ∧ Aside0 (lift_Same.l0 kq (l0_2.length : Int) x30_2 a0_0 a0_1 l0_2 a1_0 a1_1 l1_2 = some r) ∧ Aside0 (kq ≤ kj2) ∧ Aside0 (w'.heap[gb213]? = some (.cells #[.bool a0_0, .bool a0_1, (.slice A0_2 l0_2.length c0_2)] 64 (0, 0))) ∧ Aside0 (w'.heap[gb214]? = some (.cells #[.bool a1_0, .bool a1_1, (.slice A1_2 l1_2.length c1_2)] 64 (0, 0))) ∧ Aside0 (Below w.heap.size w w'))
    case atStart => exact ⟨(0), (by first | rfl | (simp; done) | (simp [*]; done)), H', ⟨Nat.le_refl _⟩, ⟨bkq BK213⟩, ⟨bkq BK214⟩, ⟨by repeat (first | (with_reducible first | exact HB.out | apply below_alloc | apply pw_below_drewN | apply below_drew1 | refine below_set ?_ GE213.out | refine below_set ?_ GE214.out) | exact HB.out)⟩⟩
    case round =>
     clear H'
     try clear c1
     try clear c2
     try clear p2 p2
     try clear c6
     try clear c6b0
     try clear c6b1
     try clear c6b2
     try clear c7
     try clear c10
     try clear c10b0
     try clear c10b1
     try clear c10b2
     try clear c11
     try clear c14
     try clear c17
     try clear c18
     try clear hcz12_0 hcz12_1 hcz12_2 hfz12_0 hfz12_1 hfz12_2
     try clear hcz13_0 hcz13_1 hcz13_2 hfz13_0 hfz13_1 hfz13_2
     try clear hcz15_0 hcz15_1 hcz15_2 hfz15_0 hfz15_1 hfz15_2
     try clear hcz16_0 hcz16_1 hcz16_2 hfz16_0 hfz16_1 hfz16_2
     try clear hcz19_0 hcz19_1 hcz19_2 hfz19_0 hfz19_1 hfz19_2
     try clear hcz8_0 hcz8_1 hcz8_2 hfz8_0 hfz8_1 hfz8_2
     try clear hcz9_0 hcz9_1 hcz9_2 hfz9_0 hfz9_1 hfz9_2
     obtain ⟨x30_2, rfl, HA, HK2, BK213, BK214, HB⟩ := hrel
     cases gk with
     | zero => exact absurd HA.out (by simp [lift_Same.l0])
     | succ k2 =>
      have H := HA.out
      clear HA
      simp only [lift_Same.l0] at H
      by_cases c20 : x30_2 < (l0_2.length : Int)
      ·rw [if_pos c20] at H
       have c20b0 : decide (x30_2 < (l0_2.length : Int)) = true := decide_eq_true c20
       clear c20
       by_cases c21 : 0 ≤ x30_2
       ·rw [if_pos c21] at H
        have c21b0 : decide (0 ≤ x30_2) = true := decide_eq_true c21
        clear c21
        by_cases c22 : x30_2 < (l0_2.length : Int)
        ·rw [if_pos c22] at H
         have c22b0 : decide (x30_2 < (l0_2.length : Int)) = true := decide_eq_true c22
         clear c22
         by_cases c23 : x30_2 < (l1_2.length : Int)
         ·rw [if_pos c23] at H
          have c23b0 : decide (x30_2 < (l1_2.length : Int)) = true := decide_eq_true c23
          clear c23
          by_cases c24 : (rd l0_2 x30_2) = (rd l1_2 x30_2)
          ·rw [if_pos c24] at H
           have c24b0 : ((rd l0_2 x30_2) == (rd l1_2 x30_2)) = true := beq_iff_eq.mpr c24
           have c24b1 : ((rd l0_2 x30_2) != (rd l1_2 x30_2)) = false := bne_eq_false_iff_eq.mpr c24
           clear c24
           have H' := Aside0.mk H
           clear H
           have hnb25 := NB213_214.out
           have hnc25 := NB214_213.out
           obtain ⟨hcz26_0, hcz26_1, hcz26_2, hfz26_0, hfz26_1, hfz26_2⟩ := bc3 BK213
           have p215 : 0 ≤ (x30_2 : Int) := of_decide_eq_true (by first | (with_reducible assumption) | assumption)
           have q215 : x30_2 < (l0_2.length : Int) := of_decide_eq_true (by first | (with_reducible assumption) | assumption)
           obtain ⟨ad215, e215, hx215_0⟩ := Kd.at_int HR0_2.out x30_2 p215 q215
           cases e215
           replace hx215_0 := (HB.out.cell (World.block_lt_of_cell? w _ hx215_0)).trans hx215_0
           replace p215 := eq_true p215
           replace q215 := eq_true q215
           obtain ⟨hcz27_0, hcz27_1, hcz27_2, hfz27_0, hfz27_1, hfz27_2⟩ := bc3 BK214
           have p216 : 0 ≤ (x30_2 : Int) := of_decide_eq_true (by first | (with_reducible assumption) | assumption)
           have q216 : x30_2 < (l1_2.length : Int) := of_decide_eq_true (by first | (with_reducible assumption) | assumption)
           obtain ⟨ad216, e216, hx216_0⟩ := Kd.at_int HR1_2.out x30_2 p216 q216
           cases e216
           replace hx216_0 := (HB.out.cell (World.block_lt_of_cell? w _ hx216_0)).trans hx216_0
           replace p216 := eq_true p216
           replace q216 := eq_true q216
           go_wp2
           repeat (go_quiet (fail); try go_wp2)
           go_roundg k2
           case measure => have := HJ2.out; have := HK2.out; omega
           case rel => exact ⟨(wrap64 (x30_2 + 1)), (by first | rfl | (simp; done) | (simp [*]; done)), H', ⟨by have := HJ2.out; have := HK2.out; omega⟩, ⟨bkq BK213⟩, ⟨bkq BK214⟩, ⟨by repeat (first | (with_reducible first | exact HB.out | apply below_alloc | apply pw_below_drewN | apply below_drew1 | refine below_set ?_ GE213.out | refine below_set ?_ GE214.out) | exact HB.out)⟩⟩
          ·rw [if_neg c24] at H
           have c24b0 : ((rd l0_2 x30_2) == (rd l1_2 x30_2)) = false := beq_eq_false_iff_ne.mpr c24
           have c24b1 : ((rd l0_2 x30_2) != (rd l1_2 x30_2)) = true := bne_iff_ne.mpr c24
           obtain rfl := Option.some.inj H
           have hnb28 := NB213_214.out
           have hnc28 := NB214_213.out
           obtain ⟨hcz29_0, hcz29_1, hcz29_2, hfz29_0, hfz29_1, hfz29_2⟩ := bc3 BK213
           have p215 : 0 ≤ (x30_2 : Int) := of_decide_eq_true (by first | (with_reducible assumption) | assumption)
           have q215 : x30_2 < (l0_2.length : Int) := of_decide_eq_true (by first | (with_reducible assumption) | assumption)
           obtain ⟨ad215, e215, hx215_0⟩ := Kd.at_int HR0_2.out x30_2 p215 q215
           cases e215
           replace hx215_0 := (HB.out.cell (World.block_lt_of_cell? w _ hx215_0)).trans hx215_0
           replace p215 := eq_true p215
           replace q215 := eq_true q215
           obtain ⟨hcz30_0, hcz30_1, hcz30_2, hfz30_0, hfz30_1, hfz30_2⟩ := bc3 BK214
           have p216 : 0 ≤ (x30_2 : Int) := of_decide_eq_true (by first | (with_reducible assumption) | assumption)
           have q216 : x30_2 < (l1_2.length : Int) := of_decide_eq_true (by first | (with_reducible assumption) | assumption)
           obtain ⟨ad216, e216, hx216_0⟩ := Kd.at_int HR1_2.out x30_2 p216 q216
           cases e216
           replace hx216_0 := (HB.out.cell (World.block_lt_of_cell? w _ hx216_0)).trans hx216_0
           replace p216 := eq_true p216
           replace q216 := eq_true q216
           go_wp2
           repeat (go_quiet (fail); try go_wp2)
           go_ret
           exact ⟨by first | rfl | (simp [errW_none, errW_some] <;> rfl) | (simp [*, errW_none, errW_some] <;> rfl), by repeat (first | (with_reducible first | exact HB.out | apply below_alloc | apply pw_below_drewN | apply below_drew1 | refine below_set ?_ GE213.out | refine below_set ?_ GE214.out) | exact HB.out)⟩
         ·rw [if_neg c23] at H
          exact absurd H (by simp)
        ·rw [if_neg c22] at H
         exact absurd H (by simp)
       ·rw [if_neg c21] at H
        exact absurd H (by simp)
      ·rw [if_neg c20] at H
       have c20b0 : decide (x30_2 < (l0_2.length : Int)) = false := decide_eq_false c20
       clear c20
       obtain rfl := Option.some.inj H
       go_wp2
       repeat (go_quiet (fail); try go_wp2)
       go_ret
       exact ⟨by first | rfl | (simp [errW_none, errW_some] <;> rfl) | (simp [*, errW_none, errW_some] <;> rfl), by repeat (first | (with_reducible first | exact HB.out | apply below_alloc | apply pw_below_drewN | apply below_drew1 | refine below_set ?_ GE213.out | refine below_set ?_ GE214.out) | exact HB.out)⟩

end Go.Proofs.Ytkhbpjhlekldpaa.PLift
