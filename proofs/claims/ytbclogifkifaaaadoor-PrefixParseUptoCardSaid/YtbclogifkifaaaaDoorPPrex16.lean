-- Written by wip/xprint.py of this work: the printer of the kit, with contracts of this work beside it, shortened.
import Derived.Test.YtbclogifkifaaaaDoorShort
import Derived.Test.YtbclogifkifaaaaDoorPPrex0
import Derived.Test.YtbclogifkifaaaaDoorPPrex15
namespace Go.Proofs.YtbclogifkifaaaaDoor.PPre
open Go.RowKit Go.Proofs.YtbclogifkifaaaaDoor.Short Go.Proofs.YtbclogifkifaaaaDoorW.PrintWords Go.Proofs.YtbclogifkifaaaaDoorW.PrintLast Go.Proofs.YtbclogifkifaaaaDoorW.PrintMore
attribute [local go_sem] max2_int min2_int max_two min_two max_three min_three max_four min_four   -- for this text's walks alone
set_option linter.unusedVariables false
set_option linter.unusedSimpArgs false

/-! ### maquettelaw05_may: function 8 -/
mutual
def maquettelaw05_may.j0 : Nat → Bool → Int → Int → Option (Bool)
 | 0, _, _, _ => none
 | k + 1, x11, x145000, x145001 => if x11 = true then (some false) else (maquettelaw05_may.l0 k x145001 x145000 x145001)
def maquettelaw05_may.l0 : Nat → Int → Int → Int → Option (Bool)
 | 0, _, _, _ => none
 | k + 1, x3, x145000, x145001 => if x3 < 32 then ((maquettelaw05_bit.f x145000 x3).bind fun t145 => (if t145 = 0 then (maquettelaw05_may.l0 k (wrap64 (x3 + 1)) x145000 x145001) else (some false))) else (some true)
end
def maquettelaw05_may.f (k : Nat) (a0_0 : Int) (a0_1 : Int) : Option (Bool) := if a0_1 < 0 then (maquettelaw05_may.j0 k true a0_0 a0_1) else (maquettelaw05_may.j0 k (decide (a0_1 > 32)) a0_0 a0_1)
theorem maquettelaw05_may.mono_l : ∀ k, (∀ y0 y1 y2, LeO (maquettelaw05_may.j0 k y0 y1 y2) (maquettelaw05_may.j0 (k + 1) y0 y1 y2)) ∧ (∀ y0 y1 y2, LeO (maquettelaw05_may.l0 k y0 y1 y2) (maquettelaw05_may.l0 (k + 1) y0 y1 y2))
 | 0 => ⟨fun _ _ _ r h => by simp [maquettelaw05_may.j0] at h, fun _ _ _ r h => by simp [maquettelaw05_may.l0] at h⟩
 | k + 1 => by
  obtain ⟨ih0, ih1⟩ := maquettelaw05_may.mono_l k
  refine ⟨?_, ?_⟩<;> intros <;> (first | unfold maquettelaw05_may.j0 | unfold maquettelaw05_may.l0) <;> repeat' first
   | (with_reducible exact ih0 _ _ _)
   | (with_reducible exact ih1 _ _ _)
   | (with_reducible exact LeO.refl _)
   | (with_reducible exact LeO.none _)
   | (with_reducible refine LeO.ite ?_ ?_)
   | (with_reducible refine LeO.bind ?_ (fun _ => ?_))
   | exact ih0 _ _ _
   | exact ih1 _ _ _
   | exact LeO.none _
   | refine LeO.ite ?_ ?_
   | refine LeO.bind ?_ (fun _ => ?_)
theorem maquettelaw05_may.mono : ∀ a0 a1 k, LeO (maquettelaw05_may.f k a0 a1) (maquettelaw05_may.f (k + 1) a0 a1) := by
 intro a0 a1 k
 obtain ⟨ih0, ih1⟩ := maquettelaw05_may.mono_l k
 unfold maquettelaw05_may.f
 repeat' first
   | (with_reducible exact ih0 _ _ _)
   | (with_reducible exact ih1 _ _ _)
   | (with_reducible exact LeO.refl _)
   | (with_reducible exact LeO.none _)
   | (with_reducible refine LeO.ite ?_ ?_)
   | (with_reducible refine LeO.bind ?_ (fun _ => ?_))
   | exact ih0 _ _ _
   | exact ih1 _ _ _
   | exact LeO.none _
   | refine LeO.ite ?_ ?_
   | refine LeO.bind ?_ (fun _ => ?_)
set_option maxHeartbeats 8000000 in
set_option maxRecDepth 100000 in
theorem maquettelaw05_may.calls (k : Nat) (a0_0 : Int) (a0_1 : Int) (r : Bool) (w : World) (h : maquettelaw05_may.f k a0_0 a0_1 = some r) :
  Calls Tryd.prog 8 #[.agg #[.int .u32 a0_0, .int .i64 a0_1]] w fun e w' => e = .returned (.bool r) ∧ Below w.heap.size w w' := by
 have hu27 := Tryd.underlying27
 have HB := Aside0.mk (Below.refl w.heap.size w)
 have H : (if a0_1 < 0 then (maquettelaw05_may.j0 k true a0_0 a0_1) else (maquettelaw05_may.j0 k (decide (a0_1 > 32)) a0_0 a0_1)) = some r := h
 clear h
 have HC2 := Aside0.mk H
 clear H
 go_enter Tryd.func8, Tryd.ntmps8
 go_upto_region 1 with (first | ((with_reducible refine gate_dst (N := 1) rfl ?_); refine bx 1 (cs := #[.int .u32 a0_0, .int .i64 a0_1]) (t := 27) (h := ?_); intro gb144 hg w3 hbox hb; have BK144 := Aside0.mk hbox; have GW144 : Aside0 (w.heap.size ≤ gb144) := bge hg; have GE144 : Aside0 (w.heap.size ≤ gb144) := bge hg; replace HB := bst hb; clear hb hbox hg))
 (try simp only [Act.put, List.setIfInBounds_toArray, List.set_cons_zero, List.set_cons_succ])
 go_cut [11] (fun v11 wc => ∃ (kq : Nat) (x11_1 : Bool), v11 = .bool x11_1 ∧ Aside0 (maquettelaw05_may.j0 kq x11_1 a0_0 a0_1 = some r) ∧ Aside0 (kq ≤ k) ∧ Aside0 (wc.heap[gb144]? = some (.cells #[.int .u32 a0_0, .int .i64 a0_1] 27 (0, 0))) ∧ Aside0 (Below w.heap.size w wc))
 case first =>
  have H := HC2.out
  clear HC2
  by_cases c4 : a0_1 < 0
  ·rw [if_pos c4] at H
   have c4b0 := decide_eq_true c4
   clear c4
   (first | rw [c4b0] | (simp only [i64_w, i32_w]; rw [c4b0]) | skip)
   have H' := Aside0.mk H
   clear H
   obtain ⟨hcz5_0, hcz5_1, hfz5_0, hfz5_1⟩ := bc2 BK144
   go_wp2
   go_meet
   case rel => exact ⟨_, (true), (by first | rfl | (simp; done) | (simp [*]; done)), H', ⟨by first | omega | exact Nat.le_refl _⟩, ⟨bkq BK144⟩, ⟨by repeat (first | (with_reducible first | exact HB.out | apply below_alloc | apply pw_below_drewN | apply below_drew1 | refine below_set ?_ GE144.out) | exact HB.out)⟩⟩
  ·rw [if_neg c4] at H
   have c4b0 := decide_eq_false c4
   clear c4
   (first | rw [c4b0] | (simp only [i64_w, i32_w]; rw [c4b0]) | skip)
   have H' := Aside0.mk H
   clear H
   obtain ⟨hcz6_0, hcz6_1, hfz6_0, hfz6_1⟩ := bc2 BK144
   go_wp2
   go_meet
   case rel => exact ⟨_, (decide (a0_1 > 32)), (by first | rfl | (simp; done) | (simp [*]; done)), H', ⟨by first | omega | exact Nat.le_refl _⟩, ⟨bkq BK144⟩, ⟨by repeat (first | (with_reducible first | exact HB.out | apply below_alloc | apply pw_below_drewN | apply below_drew1 | refine below_set ?_ GE144.out) | exact HB.out)⟩⟩
 case rest =>
  clear HC2
  try clear p2
  try clear c4
  try clear c4b0
  try clear hcz5_0 hcz5_1 hfz5_0 hfz5_1
  try clear hcz6_0 hcz6_1 hfz6_0 hfz6_1
  obtain ⟨kq, x11_1, rfl, HA, HJ1, BK144, HB⟩ := hcut
  cases kq with
  | zero => exact absurd HA.out (by simp [maquettelaw05_may.j0])
  | succ kj1 =>
   have H := HA.out
   clear HA
   simp only [maquettelaw05_may.j0] at H
   by_cases c7 : x11_1 = true
   ·subst c7
    have H1 : (some false) = some r := by rw [if_pos rfl] at H; exact H
    clear H
    have H := H1
    clear H1
    obtain rfl := Option.some.inj H
    go_wp2
    go_ret
    exact ⟨by first | rfl | (simp [errW_none, errW_some] <;> rfl) | (simp [*, errW_none, errW_some] <;> rfl), by repeat (first | (with_reducible first | exact HB.out | apply below_alloc | apply pw_below_drewN | apply below_drew1 | refine below_set ?_ GE144.out) | exact HB.out)⟩
   ·replace c7 := Bool.eq_false_iff.mpr c7
    subst c7
    have H1 : (maquettelaw05_may.l0 kj1 a0_1 a0_0 a0_1) = some r := by rw [if_neg (show ¬ (false = true) by decide)] at H; exact H
    clear H
    have H := H1
    clear H1
    have H' := Aside0.mk H
    clear H
    obtain ⟨hcz8_0, hcz8_1, hfz8_0, hfz8_1⟩ := bc2 BK144
    go_wp2
    go_loopg [3] kj1 (fun kq v3 w' => ∃ (x3_2 : Int), v3 = .int .i64 x3_2 ∧ Aside0 (maquettelaw05_may.l0 kq x3_2 a0_0 a0_1 = some r) ∧ Aside0 (kq ≤ kj1) ∧ Aside0 (w'.heap[gb144]? = some (.cells #[.int .u32 a0_0, .int .i64 a0_1] 27 (0, 0))) ∧ Aside0 (Below w.heap.size w w'))
    case atStart => exact ⟨(a0_1), (by first | rfl | (simp; done) | (simp [*]; done)), H', ⟨Nat.le_refl _⟩, ⟨bkq BK144⟩, ⟨by repeat (first | (with_reducible first | exact HB.out | apply below_alloc | apply pw_below_drewN | apply below_drew1 | refine below_set ?_ GE144.out) | exact HB.out)⟩⟩
    case round =>
     clear H'
     try clear p2 p2
     try clear c4
     try clear c4b0
     try clear c7
     try clear c8
     try clear hcz5_0 hcz5_1 hfz5_0 hfz5_1
     try clear hcz6_0 hcz6_1 hfz6_0 hfz6_1
     try clear hcz8_0 hcz8_1 hfz8_0 hfz8_1
     obtain ⟨x3_2, rfl, HA, HK2, BK144, HB⟩ := hrel
     cases gk with
     | zero => exact absurd HA.out (by simp [maquettelaw05_may.l0])
     | succ k2 =>
      have H := HA.out
      clear HA
      simp only [maquettelaw05_may.l0] at H
      by_cases c9 : x3_2 < 32
      ·rw [if_pos c9] at H
       have c9b0 := decide_eq_true c9
       clear c9
       replace H := Option.bind_eq_some_iff.mp H
       obtain ⟨t145, A100, H⟩ := H
       replace H : (if t145 = 0 then (maquettelaw05_may.l0 k2 (wrap64 (x3_2 + 1)) a0_0 a0_1) else (some false)) = some r := H
       have A10 := Aside0.mk A100
       clear A100
       by_cases c11 : t145 = 0
       ·rw [if_pos c11] at H
        have c11b0 : (t145 == 0) = true := beq_iff_eq.mpr c11
        have c11b1 : (t145 != 0) = false := bne_eq_false_iff_eq.mpr c11
        clear c11
        have H' := Aside0.mk H
        clear H
        obtain ⟨hcz12_0, hcz12_1, hfz12_0, hfz12_1⟩ := bc2 BK144
        go_wp2_with (first | ((with_reducible refine gate_dst (N := 21) rfl ?_); refine gl (some 21) Tryd.func15 #[.int .u32 a0_0, .int .i64 x3_2] ?_; (with_reducible refine (maquettelaw05_bit.calls a0_0 x3_2 t145 _ A10.out).mono ?_); rintro e w' ⟨rfl, ⟨nd, rfl⟩⟩; refine ⟨_, rfl, ?_⟩))
        go_roundg k2
        case measure => have := HJ1.out; have := HK2.out; omega
        case rel => exact ⟨(wrap64 (x3_2 + 1)), (by first | rfl | (simp; done) | (simp [*]; done)), H', ⟨by have := HJ1.out; have := HK2.out; omega⟩, ⟨bkq BK144⟩, ⟨by repeat (first | (with_reducible first | exact HB.out | apply below_alloc | apply pw_below_drewN | apply below_drew1 | refine below_set ?_ GE144.out) | exact HB.out)⟩⟩
       ·rw [if_neg c11] at H
        have c11b0 : (t145 == 0) = false := beq_eq_false_iff_ne.mpr c11
        have c11b1 : (t145 != 0) = true := bne_iff_ne.mpr c11
        obtain rfl := Option.some.inj H
        obtain ⟨hcz13_0, hcz13_1, hfz13_0, hfz13_1⟩ := bc2 BK144
        go_wp2_with (first | ((with_reducible refine gate_dst (N := 21) rfl ?_); refine gl (some 21) Tryd.func15 #[.int .u32 a0_0, .int .i64 x3_2] ?_; (with_reducible refine (maquettelaw05_bit.calls a0_0 x3_2 t145 _ A10.out).mono ?_); rintro e w' ⟨rfl, ⟨nd, rfl⟩⟩; refine ⟨_, rfl, ?_⟩))
        go_ret
        exact ⟨by first | rfl | (simp [errW_none, errW_some] <;> rfl) | (simp [*, errW_none, errW_some] <;> rfl), by repeat (first | (with_reducible first | exact HB.out | apply below_alloc | apply pw_below_drewN | apply below_drew1 | refine below_set ?_ GE144.out) | exact HB.out)⟩
      ·rw [if_neg c9] at H
       have c9b0 := decide_eq_false c9
       clear c9
       obtain rfl := Option.some.inj H
       go_wp2
       go_ret
       exact ⟨by first | rfl | (simp [errW_none, errW_some] <;> rfl) | (simp [*, errW_none, errW_some] <;> rfl), by repeat (first | (with_reducible first | exact HB.out | apply below_alloc | apply pw_below_drewN | apply below_drew1 | refine below_set ?_ GE144.out) | exact HB.out)⟩

end Go.Proofs.YtbclogifkifaaaaDoor.PPre
