-- Written by wip/xprint.py of this work: the printer of the kit, with contracts of this work beside it, shortened.
import Derived.Test.YtjcopneljfcfoaaDoorShort
import Derived.Test.YtjcopneljfcfoaaDoorPRawx0
import Derived.Test.YtjcopneljfcfoaaDoorPRawx11
import Derived.Test.YtjcopneljfcfoaaDoorPRawx12
import Derived.Test.YtjcopneljfcfoaaDoorPRawx25
namespace Go.Proofs.YtjcopneljfcfoaaDoor.PRaw
open Go.RowKit Go.Proofs.YtjcopneljfcfoaaDoor.Short Go.Proofs.YtjcopneljfcfoaaDoorW.PrintWords Go.Proofs.YtjcopneljfcfoaaDoorW.PrintLast Go.Proofs.YtjcopneljfcfoaaDoorW.PrintMore
attribute [local go_sem] max2_int min2_int max_two min_two max_three min_three max_four min_four   -- for this text's walks alone
set_option linter.unusedVariables false
set_option linter.unusedSimpArgs false

/-! ### maquettelaw07_TextLines: function 5 -/
mutual
def maquettelaw07_TextLines.l0 : Nat → Int → List (S36) → Int → Int → List (S36) → List (S46) → Option (Bool)
 | 0, _, _, _, _, _, _ => none
 | k + 1, x4, x26, x27, x28, x314000, x314001 => if x28 < x27 then (if 0 ≤ x28 then (if x28 < (x26.length : Int) then (maquettelaw07_TextLines.l0 k (wrap64 (x4 + (((rd_T36 x26 x28).f1).length : Int))) x26 x27 (wrap64 (x28 + 1)) x314000 x314001) else (none)) else (none)) else (maquettelaw07_TextLines.l1 k x4 x314001 (x314001.length : Int) 0 x314000 x314001)
def maquettelaw07_TextLines.l1 : Nat → Int → List (S46) → Int → Int → List (S36) → List (S46) → Option (Bool)
 | 0, _, _, _, _, _, _ => none
 | k + 1, x4, x39, x40, x41, x314000, x314001 => if x41 < x40 then (if 0 ≤ x41 then (if x41 < (x39.length : Int) then (maquettelaw07_TextLines.l1 k (wrap64 (x4 + (wrap64 ((wrap64 ((((rd_T46 x39 x41).f1).length : Int) + (((rd_T46 x39 x41).f2).length : Int))) + (((rd_T46 x39 x41).f3).length : Int))))) x39 x40 (wrap64 (x41 + 1)) x314000 x314001) else (none)) else (none)) else ((text_Config.f k x314000 x314001).bind fun t318 => (maquettelaw07_TextLines.l2 k x4 t318 0 0))
def maquettelaw07_TextLines.l2 : Nat → Int → ByteArray → Int → Int → Option (Bool)
 | 0, _, _, _, _ => none
 | k + 1, x4, x9, x10, x11 => if x11 < (x9.size : Int) then (if 0 ≤ x11 then (if (bt x9 x11) = 10 then (maquettelaw07_TextLines.l2 k x4 x9 (wrap64 (x10 + 1)) (wrap64 (x11 + 1))) else (maquettelaw07_TextLines.l2 k x4 x9 x10 (wrap64 (x11 + 1)))) else (none)) else (if x10 = x4 then (if (x9.size : Int) = 0 then (some true) else (if 0 ≤ (wrap64 ((x9.size : Int) - 1)) then (if (wrap64 ((x9.size : Int) - 1)) < (x9.size : Int) then (some ((bt x9 (wrap64 ((x9.size : Int) - 1))) == 10)) else (none)) else (none))) else (some false))
end
def maquettelaw07_TextLines.f (k : Nat) (a0_0 : Int) (l0_1 : List Int) (l0_2 : List (List (S74))) (l0_3 : List Int) (l0_4 : List Int) (l0_5 : List Int) : Option (Bool) := (maquettelaw07_awake.f k).bind fun t306 => (if t306 = true then ((maquettelaw07_Shape_Config.f k a0_0 l0_1 l0_2 l0_3 l0_4 l0_5).bind fun bt307 => (maquettelaw07_TextLines.l0 k (wrap64 ((wrap64 (2 * (bt307.1.length : Int))) + (wrap64 (2 * (bt307.2.length : Int))))) bt307.1 (bt307.1.length : Int) 0 bt307.1 bt307.2)) else (some false))
theorem maquettelaw07_TextLines.mono_l : ∀ k, (∀ y0 y1 y2 y3 y4 y5, LeO (maquettelaw07_TextLines.l0 k y0 y1 y2 y3 y4 y5) (maquettelaw07_TextLines.l0 (k + 1) y0 y1 y2 y3 y4 y5)) ∧ (∀ y0 y1 y2 y3 y4 y5, LeO (maquettelaw07_TextLines.l1 k y0 y1 y2 y3 y4 y5) (maquettelaw07_TextLines.l1 (k + 1) y0 y1 y2 y3 y4 y5)) ∧ (∀ y0 y1 y2 y3, LeO (maquettelaw07_TextLines.l2 k y0 y1 y2 y3) (maquettelaw07_TextLines.l2 (k + 1) y0 y1 y2 y3))
 | 0 => ⟨fun _ _ _ _ _ _ r h => by simp [maquettelaw07_TextLines.l0] at h, fun _ _ _ _ _ _ r h => by simp [maquettelaw07_TextLines.l1] at h, fun _ _ _ _ r h => by simp [maquettelaw07_TextLines.l2] at h⟩
 | k + 1 => by
  obtain ⟨ih0, ih1, ih2⟩ := maquettelaw07_TextLines.mono_l k
  refine ⟨?_, ?_, ?_⟩<;> intros <;> (first | unfold maquettelaw07_TextLines.l0 | unfold maquettelaw07_TextLines.l1 | unfold maquettelaw07_TextLines.l2) <;> repeat' first
   | (with_reducible exact ih0 _ _ _ _ _ _)
   | (with_reducible exact ih1 _ _ _ _ _ _)
   | (with_reducible exact ih2 _ _ _ _)
   | (with_reducible exact maquettelaw07_Shape_Config.mono _ _ _ _ _ _ _)
   | (with_reducible exact maquettelaw07_awake.mono _)
   | (with_reducible exact text_Config.mono _ _ _)
   | (with_reducible exact LeO.refl _)
   | (with_reducible exact LeO.none _)
   | (with_reducible refine LeO.ite ?_ ?_)
   | (with_reducible refine LeO.bind ?_ (fun _ => ?_))
   | exact ih0 _ _ _ _ _ _
   | exact ih1 _ _ _ _ _ _
   | exact ih2 _ _ _ _
   | exact maquettelaw07_Shape_Config.mono _ _ _ _ _ _ _
   | exact maquettelaw07_awake.mono _
   | exact text_Config.mono _ _ _
   | exact LeO.none _
   | refine LeO.ite ?_ ?_
   | refine LeO.bind ?_ (fun _ => ?_)
theorem maquettelaw07_TextLines.mono : ∀ a0 a1 a2 a3 a4 a5 k, LeO (maquettelaw07_TextLines.f k a0 a1 a2 a3 a4 a5) (maquettelaw07_TextLines.f (k + 1) a0 a1 a2 a3 a4 a5) := by
 intro a0 a1 a2 a3 a4 a5 k
 obtain ⟨ih0, ih1, ih2⟩ := maquettelaw07_TextLines.mono_l k
 unfold maquettelaw07_TextLines.f
 repeat' first
   | (with_reducible exact ih0 _ _ _ _ _ _)
   | (with_reducible exact ih1 _ _ _ _ _ _)
   | (with_reducible exact ih2 _ _ _ _)
   | (with_reducible exact maquettelaw07_Shape_Config.mono _ _ _ _ _ _ _)
   | (with_reducible exact maquettelaw07_awake.mono _)
   | (with_reducible exact text_Config.mono _ _ _)
   | (with_reducible exact LeO.refl _)
   | (with_reducible exact LeO.none _)
   | (with_reducible refine LeO.ite ?_ ?_)
   | (with_reducible refine LeO.bind ?_ (fun _ => ?_))
   | exact ih0 _ _ _ _ _ _
   | exact ih1 _ _ _ _ _ _
   | exact ih2 _ _ _ _
   | exact maquettelaw07_Shape_Config.mono _ _ _ _ _ _ _
   | exact maquettelaw07_awake.mono _
   | exact text_Config.mono _ _ _
   | exact LeO.none _
   | refine LeO.ite ?_ ?_
   | refine LeO.bind ?_ (fun _ => ?_)
set_option maxHeartbeats 8000000 in
set_option maxRecDepth 100000 in
theorem maquettelaw07_TextLines.calls (k : Nat) (a0_0 : Int) (A0_1 : Option Addr) (c0_1 : Nat) (l0_1 : List Int) (A0_2 : Option Addr) (c0_2 : Nat) (l0_2 : List (List (S74))) (A0_3 : Option Addr) (c0_3 : Nat) (l0_3 : List Int) (A0_4 : Option Addr) (c0_4 : Nat) (l0_4 : List Int) (A0_5 : Option Addr) (c0_5 : Nat) (l0_5 : List Int) (r : Bool) (w : World) (hr0_1 : Kd.C (Kd.int .u8) w A0_1 l0_1.length l0_1) (hc0_1 : l0_1.length ≤ c0_1) (hr0_2 : Kd.C (Kd.slice 74 k74) w A0_2 l0_2.length l0_2) (hc0_2 : l0_2.length ≤ c0_2) (hr0_3 : Kd.C (Kd.int .u8) w A0_3 l0_3.length l0_3) (hc0_3 : l0_3.length ≤ c0_3) (hr0_4 : Kd.C (Kd.int .u8) w A0_4 l0_4.length l0_4) (hc0_4 : l0_4.length ≤ c0_4) (hr0_5 : Kd.C (Kd.int .u8) w A0_5 l0_5.length l0_5) (hc0_5 : l0_5.length ≤ c0_5) (h : maquettelaw07_TextLines.f k a0_0 l0_1 l0_2 l0_3 l0_4 l0_5 = some r) (hInv : Go.Proofs.YtjcopneljfcfoaaDoor.Inv.Inv w) :
  Calls Tryd.prog 5 #[.agg #[.int .u8 a0_0, .slice A0_1 l0_1.length c0_1, .slice A0_2 l0_2.length c0_2, .slice A0_3 l0_3.length c0_3, .slice A0_4 l0_4.length c0_4, .slice A0_5 l0_5.length c0_5]] w fun e w' => e = .returned (.bool r) ∧ Below w.heap.size w w' := by
 have hu25 := Tryd.underlying25
 have hu30 := Tryd.underlying30
 have hu36 := Tryd.underlying36
 have hu46 := Tryd.underlying46
 have HR0_1 := Aside0.mk hr0_1
 have HC0_1 := Aside0.mk hc0_1
 clear hr0_1 hc0_1
 have HR0_2 := Aside0.mk hr0_2
 have HC0_2 := Aside0.mk hc0_2
 clear hr0_2 hc0_2
 have HR0_3 := Aside0.mk hr0_3
 have HC0_3 := Aside0.mk hc0_3
 clear hr0_3 hc0_3
 have HR0_4 := Aside0.mk hr0_4
 have HC0_4 := Aside0.mk hc0_4
 clear hr0_4 hc0_4
 have HR0_5 := Aside0.mk hr0_5
 have HC0_5 := Aside0.mk hc0_5
 clear hr0_5 hc0_5
 have HB := Aside0.mk (Below.refl w.heap.size w)
 have H : ((maquettelaw07_awake.f k).bind fun t306 => (if t306 = true then ((maquettelaw07_Shape_Config.f k a0_0 l0_1 l0_2 l0_3 l0_4 l0_5).bind fun bt307 => (maquettelaw07_TextLines.l0 k (wrap64 ((wrap64 (2 * (bt307.1.length : Int))) + (wrap64 (2 * (bt307.2.length : Int))))) bt307.1 (bt307.1.length : Int) 0 bt307.1 bt307.2)) else (some false))) = some r := h
 clear h
 replace H := Option.bind_eq_some_iff.mp H
 obtain ⟨t306, A20, H⟩ := H
 replace H : (if t306 = true then ((maquettelaw07_Shape_Config.f k a0_0 l0_1 l0_2 l0_3 l0_4 l0_5).bind fun bt307 => (maquettelaw07_TextLines.l0 k (wrap64 ((wrap64 (2 * (bt307.1.length : Int))) + (wrap64 (2 * (bt307.2.length : Int))))) bt307.1 (bt307.1.length : Int) 0 bt307.1 bt307.2)) else (some false)) = some r := H
 have A2 := Aside0.mk A20
 clear A20
 by_cases c3 : t306 = true
 ·subst c3
  have H1 : ((maquettelaw07_Shape_Config.f k a0_0 l0_1 l0_2 l0_3 l0_4 l0_5).bind fun bt307 => (maquettelaw07_TextLines.l0 k (wrap64 ((wrap64 (2 * (bt307.1.length : Int))) + (wrap64 (2 * (bt307.2.length : Int))))) bt307.1 (bt307.1.length : Int) 0 bt307.1 bt307.2)) = some r := by rw [if_pos rfl] at H; exact H
  clear H
  have H := H1
  clear H1
  replace H := Option.bind_eq_some_iff.mp H
  obtain ⟨⟨t307, t310⟩, A40, H⟩ := H
  replace H : (maquettelaw07_TextLines.l0 k (wrap64 ((wrap64 (2 * (t307.length : Int))) + (wrap64 (2 * (t310.length : Int))))) t307 (t307.length : Int) 0 t307 t310) = some r := H
  have A4 := Aside0.mk A40
  clear A40
  have H' := Aside0.mk H
  clear H
  go_enter Tryd.func5, Tryd.ntmps5
  go_wp2_with (first | ((with_reducible refine gate_dst (N := 1) rfl ?_); (try (refine gate_guard (by rfl) ?_; dsimp only)); refine bx 1 (cs := #[.int .u8 a0_0, .slice A0_1 l0_1.length c0_1, .slice A0_2 l0_2.length c0_2, .slice A0_3 l0_3.length c0_3, .slice A0_4 l0_4.length c0_4, .slice A0_5 l0_5.length c0_5]) (t := 25) (h := ?_); intro gb305 hg w5 hbox hb; have BK305 := Aside0.mk hbox; have GW305 : Aside0 (w.heap.size ≤ gb305) := bge hg; have GE305 : Aside0 (w.heap.size ≤ gb305) := bge hg; replace HB := bst hb; clear hb hbox hg) | ((with_reducible refine gate_dst (N := 12) rfl ?_); refine gl (some 12) Tryd.func8 #[] ?_; (with_reducible refine (maquettelaw07_awake.calls k  true _ A2.out (Go.Proofs.YtjcopneljfcfoaaDoor.Inv.ivb hInv)).mono ?_); rintro e w6 ⟨rfl, hb⟩; refine ⟨_, rfl, ?_⟩; replace BK305 := bkb BK305 hb; replace HB := bst hb; (try clear hb); (try clear hb2); (try clear hk); (try clear hi); obtain ⟨hcz7_0, hcz7_1, hcz7_2, hcz7_3, hcz7_4, hcz7_5, hfz7_0, hfz7_1, hfz7_2, hfz7_3, hfz7_4, hfz7_5⟩ := bc6 BK305) | ((with_reducible refine gate_dst (N := 15) rfl ?_); refine gl (some 15) Tryd.func9 #[.agg #[.int .u8 a0_0, .slice A0_1 l0_1.length c0_1, .slice A0_2 l0_2.length c0_2, .slice A0_3 l0_3.length c0_3, .slice A0_4 l0_4.length c0_4, .slice A0_5 l0_5.length c0_5]] ?_; (with_reducible refine (maquettelaw07_Shape_Config.calls k a0_0 _ _ l0_1 _ _ l0_2 _ _ l0_3 _ _ l0_4 _ _ l0_5 t307 t310 _ ?side1 ?side2 ?side3 ?side4 ?side5 ?side6 ?side7 ?side8 ?side9 ?side10 A4.out).mono ?_); (case side1 => exact kcb HR0_1); (case side2 => exact HC0_1.out); (case side3 => exact kcb HR0_2); (case side4 => exact HC0_2.out); (case side5 => exact kcb HR0_3); (case side6 => exact HC0_3.out); (case side7 => exact kcb HR0_4); (case side8 => exact HC0_4.out); (case side9 => exact kcb HR0_5); (case side10 => exact HC0_5.out); rintro e w8 ⟨v308, v311, rfl, ho0, ho1, hb⟩; refine ⟨_, rfl, ?_⟩; have HO309 := Aside0.mk (Kd.S_lower ho0 (below_size bel)); have HO312 := Aside0.mk (Kd.S_lower ho1 (below_size bel)); replace BK305 := bkb BK305 hb; replace HB := bst hb; (try clear hb); (try clear hb2); (try clear hk); (try clear hi); (try clear ho0); (try clear ho1)) | ((with_reducible refine gate_dst (N := 3) rfl ?_); (try (refine gate_guard (by rfl) ?_; dsimp only)); refine bx 3 (cs := #[.slice none 0 0, .slice none 0 0]) (t := 30) (h := ?_); intro gb313 hg w9 hbox hb; have BK313 := Aside0.mk hbox; have GW313 : Aside0 (w.heap.size ≤ gb313) := bge hg; have GE313 : Aside0 (w.heap.size ≤ gb313) := bge hg; have NB305_313 := bne BK305 hg; have NB313_305 := bnf BK305 hg; replace HO309 := Aside0.mk (Kd.S_below (kS HO309) hb); replace HO312 := Aside0.mk (Kd.S_below (kS HO312) hb); replace BK305 := bkb BK305 hb; replace HB := bst hb; clear hb hbox hg; obtain ⟨Ao10, co10, eo10⟩ := Kd.S_slice HO309.out; subst eo10; have hnb11 := NB313_305.out; have hnc11 := NB305_313.out; obtain ⟨hcz12_0, hcz12_1, hfz12_0, hfz12_1⟩ := bc2 BK313; obtain ⟨Ao13, co13, eo13⟩ := Kd.S_slice HO312.out; subst eo13))
  go_loopg [4, 28] k (fun kq v4 v28 w' => ∃ (x4_1 : Int) (x28_1 : Int), v4 = .int .i64 x4_1 ∧ v28 = .int .i64 x28_1 ∧ Aside0 (maquettelaw07_TextLines.l0 kq x4_1 t307 (t307.length : Int) x28_1 t307 t310 = some r) ∧ Aside0 (kq ≤ k) ∧ Aside0 (Kd.S k36 36 w' w.heap.size (fun _ => True) (.slice Ao10 t307.length co10) t307) ∧ Aside0 (Kd.S k36 36 w' w.heap.size (fun _ => True) (.slice Ao10 t307.length co10) t307) ∧ Aside0 (Kd.S k46 46 w' w.heap.size (fun _ => True) (.slice Ao13 t310.length co13) t310) ∧ Aside0 (w'.heap[gb305]? = some (.cells #[.int .u8 a0_0, (.slice A0_1 l0_1.length c0_1), (.slice A0_2 l0_2.length c0_2), (.slice A0_3 l0_3.length c0_3), (.slice A0_4 l0_4.length c0_4), (.slice A0_5 l0_5.length c0_5)] 25 (0, 0))) ∧ Aside0 (w'.heap[gb313]? = some (.cells #[(.slice Ao10 t307.length co10), (.slice Ao13 t310.length co13)] 30 (0, 0))) ∧ Aside0 (Below w.heap.size w w'))
  case atStart => exact ⟨(wrap64 ((wrap64 (2 * (t307.length : Int))) + (wrap64 (2 * (t310.length : Int))))), (0), (by first | rfl | (simp; done) | (simp [*]; done)), (by first | rfl | (simp; done) | (simp [*]; done)), H', ⟨Nat.le_refl _⟩, ⟨by (with_reducible repeat (first | apply Kd.S_alloc | apply Kd.S_drewN | apply Kd.S_drew)); exact Kd.S_mono (Kd.S_far (p := ⟨gb313, 1, none⟩) (Kd.S_far (p := ⟨gb313, 0, none⟩) (Kd.S_types HO309.out BK313.out (by decide)) (fun _ hk => hk.2) (.slice Ao10 t307.length co10)) (fun _ hk => hk.2) (.slice Ao13 t310.length co13)) (fun _ hk => trivial)⟩, ⟨by (with_reducible repeat (first | apply Kd.S_alloc | apply Kd.S_drewN | apply Kd.S_drew)); exact Kd.S_mono (Kd.S_far (p := ⟨gb313, 1, none⟩) (Kd.S_far (p := ⟨gb313, 0, none⟩) (Kd.S_types HO309.out BK313.out (by decide)) (fun _ hk => hk.2) (.slice Ao10 t307.length co10)) (fun _ hk => hk.2) (.slice Ao13 t310.length co13)) (fun _ hk => trivial)⟩, ⟨by (with_reducible repeat (first | apply Kd.S_alloc | apply Kd.S_drewN | apply Kd.S_drew)); exact Kd.S_mono (Kd.S_far (p := ⟨gb313, 1, none⟩) (Kd.S_far (p := ⟨gb313, 0, none⟩) (Kd.S_types HO312.out BK313.out (by decide)) (fun _ hk => hk.2) (.slice Ao10 t307.length co10)) (fun _ hk => hk.2) (.slice Ao13 t310.length co13)) (fun _ hk => trivial)⟩, ⟨bkq BK305⟩, ⟨bkp BK313⟩, ⟨by repeat (first | (with_reducible first | exact HB.out | apply below_alloc | apply pw_below_drewN | apply below_drew1 | refine below_set ?_ GE305.out | refine below_set ?_ GE313.out) | exact HB.out)⟩⟩
  case round =>
   clear H'
   try clear c1
   try clear p2
   try clear c3
   try clear c5
   try clear p6
   try clear c8
   try clear c9
   try clear c11
   try clear hcz12_0 hcz12_1 hfz12_0 hfz12_1
   try clear hcz7_0 hcz7_1 hcz7_2 hcz7_3 hcz7_4 hcz7_5 hfz7_0 hfz7_1 hfz7_2 hfz7_3 hfz7_4 hfz7_5
   obtain ⟨x4_1, x28_1, rfl, rfl, HA, HK1, HO_26, HO_314000, HO_314001, BK305, BK313, HB⟩ := hrel
   cases gk with
   | zero => exact absurd HA.out (by simp [maquettelaw07_TextLines.l0])
   | succ k1 =>
    have H := HA.out
    clear HA
    simp only [maquettelaw07_TextLines.l0] at H
    by_cases c14 : x28_1 < (t307.length : Int)
    ·rw [if_pos c14] at H
     have c14b0 := decide_eq_true c14
     clear c14
     by_cases c15 : 0 ≤ x28_1
     ·rw [if_pos c15] at H
      have c15b0 := decide_eq_true c15
      clear c15
      by_cases c16 : x28_1 < (t307.length : Int)
      ·rw [if_pos c16] at H
       have c16b0 := decide_eq_true c16
       clear c16
       have H' := Aside0.mk H
       clear H
       have p314 : 0 ≤ (x28_1 : Int) := of_decide_eq_true (by first | (with_reducible assumption) | assumption)
       have q314 : x28_1 < (t307.length : Int) := of_decide_eq_true (by first | (with_reducible assumption) | assumption)
       obtain ⟨ad314, A314_1, c314_1, e314, hx314_0, hx314_1, hx314_2, hl314_1, hi314_1⟩ := at_T36 (Kd.S_reads' HO_26.out).2.2 x28_1 p314 q314
       cases e314
       obtain ⟨ce314, hce314, hMe314, hcc314⟩ := Kd.S_get HO_26.out z36 x28_1 p314 (by first | exact q314 | exact of_decide_eq_true (by first | (with_reducible assumption) | assumption) | (have e_ := (Kd.S_reads' HO_26.out).1; omega))
       obtain ⟨ve314_1, rfl, ge314_1⟩ := k36_openM hMe314
       have hv314_1 := hcc314 1 _ rfl
       rw [add_field _ _ 1 (by omega)] at hv314_1
       replace hv314_1 := Option.some.inj (hv314_1.symm.trans hx314_1)
       rw [hv314_1] at ge314_1
       have HL314_1 := Aside0.mk (show Kd.R k41 41 _ _ _ _ ((rd_T36 t307 x28_1).f1) from ge314_1)
       clear hv314_1 ge314_1
       clear hcc314 hce314
       have HR314_1 := Aside0.mk hi314_1
       have HC314_1 := Aside0.mk hl314_1
       clear hi314_1 hl314_1
       replace p314 := eq_true p314
       replace q314 := eq_true q314
       go_wp2_with (first | ((with_reducible refine gate_dst (N := 6) rfl ?_); (try (refine gate_guard (by rfl) ?_; dsimp only)); refine bx 6 (cs := #[.string (⟨#[]⟩ : ByteArray), .slice none 0 0, .int .i64 0]) (t := 36) (h := ?_); intro gb315 hg w17 hbox hb; have BK315 := Aside0.mk hbox; have GW315 : Aside0 (w.heap.size ≤ gb315) := bge hg; have GE315 : Aside0 (w.heap.size ≤ gb315) := bge hg; have NB305_315 := bne BK305 hg; have NB315_305 := bnf BK305 hg; have NB313_315 := bne BK313 hg; have NB315_313 := bnf BK313 hg; replace HO_26 := Aside0.mk (Kd.S_below (Kd.S_elderB (kS HO_26) gb315 (Nat.le_of_eq hg.symm)) hb); replace HO_314000 := Aside0.mk (Kd.S_below (Kd.S_elderB (kS HO_314000) gb315 (Nat.le_of_eq hg.symm)) hb); replace HO_314001 := Aside0.mk (Kd.S_below (kS HO_314001) hb); replace HL314_1 := Aside0.mk (Kd.R_below (by (with_reducible repeat (first | apply Kd.R_alloc | apply Kd.R_drewN | apply Kd.R_drew)); exact HL314_1.out) hb); replace BK305 := bkb BK305 hb; replace BK313 := bkb BK313 hb; replace HR314_1 := Aside0.mk (Kd.C_below (by repeat (first | (with_reducible exact HR314_1.out) | (with_reducible refine Kd.C_alloc ?_ _) | (with_reducible refine Kd.C_drewN ?_ _) | (with_reducible refine Kd.C_drew ?_) | exact HR314_1.out)) hb); replace HB := bst hb; clear hb hbox hg; have hnb18 := NB315_305.out; have hnc18 := NB305_315.out; have hnb19 := NB315_313.out; have hnc19 := NB313_315.out; obtain ⟨hcz20_0, hcz20_1, hcz20_2, hfz20_0, hfz20_1, hfz20_2⟩ := bc3 BK315))
       go_roundg k1
       case measure => have := HK1.out; omega
       case rel => exact ⟨(wrap64 (x4_1 + (((rd_T36 t307 x28_1).f1).length : Int))), (wrap64 (x28_1 + 1)), (by first | rfl | (simp; done) | (simp [*]; done)), (by first | rfl | (simp; done) | (simp [*]; done)), H', ⟨by have := HK1.out; omega⟩, ⟨by (with_reducible repeat (first | apply Kd.S_alloc | apply Kd.S_drewN | apply Kd.S_drew)); exact Kd.S_mono (Kd.S_far (p := ⟨gb315, 2, none⟩) (Kd.S_far (p := ⟨gb315, 1, none⟩) (Kd.S_far (p := ⟨gb315, 0, none⟩) (Kd.S_mono HO_26.out (fun k_ hk => (⟨hk, hk.2⟩ : _ ∧ k_ ≠ gb315))) (fun _ hk => hk.2) (.string ((rd_T36 t307 x28_1).f0))) (fun _ hk => hk.2) (.slice A314_1 ((rd_T36 t307 x28_1).f1).length c314_1)) (fun _ hk => hk.2) (.int .i64 ((rd_T36 t307 x28_1).f2))) (fun _ hk => trivial)⟩, ⟨by (with_reducible repeat (first | apply Kd.S_alloc | apply Kd.S_drewN | apply Kd.S_drew)); exact Kd.S_mono (Kd.S_far (p := ⟨gb315, 2, none⟩) (Kd.S_far (p := ⟨gb315, 1, none⟩) (Kd.S_far (p := ⟨gb315, 0, none⟩) (Kd.S_mono HO_314000.out (fun k_ hk => (⟨hk, hk.2⟩ : _ ∧ k_ ≠ gb315))) (fun _ hk => hk.2) (.string ((rd_T36 t307 x28_1).f0))) (fun _ hk => hk.2) (.slice A314_1 ((rd_T36 t307 x28_1).f1).length c314_1)) (fun _ hk => hk.2) (.int .i64 ((rd_T36 t307 x28_1).f2))) (fun _ hk => trivial)⟩, ⟨by (with_reducible repeat (first | apply Kd.S_alloc | apply Kd.S_drewN | apply Kd.S_drew)); exact Kd.S_mono (Kd.S_far (p := ⟨gb315, 2, none⟩) (Kd.S_far (p := ⟨gb315, 1, none⟩) (Kd.S_far (p := ⟨gb315, 0, none⟩) (Kd.S_types HO_314001.out BK315.out (by decide)) (fun _ hk => hk.2) (.string ((rd_T36 t307 x28_1).f0))) (fun _ hk => hk.2) (.slice A314_1 ((rd_T36 t307 x28_1).f1).length c314_1)) (fun _ hk => hk.2) (.int .i64 ((rd_T36 t307 x28_1).f2))) (fun _ hk => trivial)⟩, ⟨bkq BK305⟩, ⟨bkq BK313⟩, ⟨by repeat (first | (with_reducible first | exact HB.out | apply below_alloc | apply pw_below_drewN | apply below_drew1 | refine below_set ?_ GE305.out | refine below_set ?_ GE313.out | refine below_set ?_ GE315.out) | exact HB.out)⟩⟩
      ·rw [if_neg c16] at H
       exact absurd H (by simp)
     ·rw [if_neg c15] at H
      exact absurd H (by simp)
    ·rw [if_neg c14] at H
     have c14b0 := decide_eq_false c14
     clear c14
     have H' := Aside0.mk H
     clear H
     have hnb21 := NB313_305.out
     have hnc21 := NB305_313.out
     obtain ⟨hcz22_0, hcz22_1, hfz22_0, hfz22_1⟩ := bc2 BK313
     go_wp2
     go_loopg [4, 41] k1 (fun kq v4 v41 w' => ∃ (x4_2 : Int) (x41_2 : Int), v4 = .int .i64 x4_2 ∧ v41 = .int .i64 x41_2 ∧ Aside0 (maquettelaw07_TextLines.l1 kq x4_2 t310 (t310.length : Int) x41_2 t307 t310 = some r) ∧ Aside0 (kq ≤ k1) ∧ Aside0 (Kd.S k46 46 w' w.heap.size (fun _ => True) (.slice Ao13 t310.length co13) t310) ∧ Aside0 (Kd.S k36 36 w' w.heap.size (fun _ => True) (.slice Ao10 t307.length co10) t307) ∧ Aside0 (Kd.S k46 46 w' w.heap.size (fun _ => True) (.slice Ao13 t310.length co13) t310) ∧ Aside0 (w'.heap[gb305]? = some (.cells #[.int .u8 a0_0, (.slice A0_1 l0_1.length c0_1), (.slice A0_2 l0_2.length c0_2), (.slice A0_3 l0_3.length c0_3), (.slice A0_4 l0_4.length c0_4), (.slice A0_5 l0_5.length c0_5)] 25 (0, 0))) ∧ Aside0 (w'.heap[gb313]? = some (.cells #[(.slice Ao10 t307.length co10), (.slice Ao13 t310.length co13)] 30 (0, 0))) ∧ Aside0 (Below w.heap.size w w'))
     case atStart => exact ⟨(x4_1), (0), (by first | rfl | (simp; done) | (simp [*]; done)), (by first | rfl | (simp; done) | (simp [*]; done)), H', ⟨Nat.le_refl _⟩, ⟨by (with_reducible repeat (first | apply Kd.S_alloc | apply Kd.S_drewN | apply Kd.S_drew)); exact HO_314001.out⟩, ⟨by (with_reducible repeat (first | apply Kd.S_alloc | apply Kd.S_drewN | apply Kd.S_drew)); exact HO_314000.out⟩, ⟨by (with_reducible repeat (first | apply Kd.S_alloc | apply Kd.S_drewN | apply Kd.S_drew)); exact HO_314001.out⟩, ⟨bkq BK305⟩, ⟨bkq BK313⟩, ⟨by repeat (first | (with_reducible first | exact HB.out | apply below_alloc | apply pw_below_drewN | apply below_drew1 | refine below_set ?_ GE305.out | refine below_set ?_ GE313.out) | exact HB.out)⟩⟩
     case round =>
      clear H'
      try clear c1
      try clear c2
      try clear p2 p2
      try clear c3
      try clear p3
      try clear q3
      try clear hx3
      try clear c5
      try clear p6 p6
      try clear c8
      try clear c9
      try clear c11
      try clear c14
      try clear c14b0
      try clear c15
      try clear c15b0
      try clear c16
      try clear c16b0
      try clear c18
      try clear c19
      try clear c21
      try clear hcz12_0 hcz12_1 hfz12_0 hfz12_1
      try clear hcz20_0 hcz20_1 hcz20_2 hfz20_0 hfz20_1 hfz20_2
      try clear hcz22_0 hcz22_1 hfz22_0 hfz22_1
      try clear hcz7_0 hcz7_1 hcz7_2 hcz7_3 hcz7_4 hcz7_5 hfz7_0 hfz7_1 hfz7_2 hfz7_3 hfz7_4 hfz7_5
      try clear hx314_0
      try clear hx314_1
      try clear hx314_2
      try clear p314
      try clear q314
      obtain ⟨x4_2, x41_2, rfl, rfl, HA, HK2, HO_39, HO_314000, HO_314001, BK305, BK313, HB⟩ := hrel
      cases gk with
      | zero => exact absurd HA.out (by simp [maquettelaw07_TextLines.l1])
      | succ k2 =>
       have H := HA.out
       clear HA
       simp only [maquettelaw07_TextLines.l1] at H
       by_cases c23 : x41_2 < (t310.length : Int)
       ·rw [if_pos c23] at H
        have c23b0 := decide_eq_true c23
        clear c23
        by_cases c24 : 0 ≤ x41_2
        ·rw [if_pos c24] at H
         have c24b0 := decide_eq_true c24
         clear c24
         by_cases c25 : x41_2 < (t310.length : Int)
         ·rw [if_pos c25] at H
          have c25b0 := decide_eq_true c25
          clear c25
          have H' := Aside0.mk H
          clear H
          have p316 : 0 ≤ (x41_2 : Int) := of_decide_eq_true (by first | (with_reducible assumption) | assumption)
          have q316 : x41_2 < (t310.length : Int) := of_decide_eq_true (by first | (with_reducible assumption) | assumption)
          obtain ⟨ad316, A316_1, c316_1, A316_2, c316_2, A316_3, c316_3, e316, hx316_0, hx316_1, hx316_2, hx316_3, hx316_4, hl316_1, hi316_1, hl316_2, hi316_2, hl316_3, hi316_3⟩ := at_T46 (Kd.S_reads' HO_39.out).2.2 x41_2 p316 q316
          cases e316
          obtain ⟨ce316, hce316, hMe316, hcc316⟩ := Kd.S_get HO_39.out z46 x41_2 p316 (by first | exact q316 | exact of_decide_eq_true (by first | (with_reducible assumption) | assumption) | (have e_ := (Kd.S_reads' HO_39.out).1; omega))
          obtain ⟨ve316_1, ve316_2, ve316_3, rfl, ge316_1, ge316_2, ge316_3⟩ := k46_openM hMe316
          have hv316_1 := hcc316 1 _ rfl
          rw [add_field _ _ 1 (by omega)] at hv316_1
          replace hv316_1 := Option.some.inj (hv316_1.symm.trans hx316_1)
          rw [hv316_1] at ge316_1
          have HL316_1 := Aside0.mk (show Kd.R k39 39 _ _ _ _ ((rd_T46 t310 x41_2).f1) from ge316_1)
          clear hv316_1 ge316_1
          have hv316_2 := hcc316 2 _ rfl
          rw [add_field _ _ 2 (by omega)] at hv316_2
          replace hv316_2 := Option.some.inj (hv316_2.symm.trans hx316_2)
          rw [hv316_2] at ge316_2
          have HL316_2 := Aside0.mk (show Kd.R k48 48 _ _ _ _ ((rd_T46 t310 x41_2).f2) from ge316_2)
          clear hv316_2 ge316_2
          have hv316_3 := hcc316 3 _ rfl
          rw [add_field _ _ 3 (by omega)] at hv316_3
          replace hv316_3 := Option.some.inj (hv316_3.symm.trans hx316_3)
          rw [hv316_3] at ge316_3
          have HL316_3 := Aside0.mk (show Kd.R k60 60 _ _ _ _ ((rd_T46 t310 x41_2).f3) from ge316_3)
          clear hv316_3 ge316_3
          clear hcc316 hce316
          have HR316_1 := Aside0.mk hi316_1
          have HC316_1 := Aside0.mk hl316_1
          clear hi316_1 hl316_1
          have HR316_2 := Aside0.mk hi316_2
          have HC316_2 := Aside0.mk hl316_2
          clear hi316_2 hl316_2
          have HR316_3 := Aside0.mk hi316_3
          have HC316_3 := Aside0.mk hl316_3
          clear hi316_3 hl316_3
          replace p316 := eq_true p316
          replace q316 := eq_true q316
          go_wp2_with (first | ((with_reducible refine gate_dst (N := 8) rfl ?_); (try (refine gate_guard (by rfl) ?_; dsimp only)); refine bx 8 (cs := #[.string (⟨#[]⟩ : ByteArray), .slice none 0 0, .slice none 0 0, .slice none 0 0, .int .i64 0]) (t := 46) (h := ?_); intro gb317 hg w26 hbox hb; have BK317 := Aside0.mk hbox; have GW317 : Aside0 (w.heap.size ≤ gb317) := bge hg; have GE317 : Aside0 (w.heap.size ≤ gb317) := bge hg; have NB305_317 := bne BK305 hg; have NB317_305 := bnf BK305 hg; have NB313_317 := bne BK313 hg; have NB317_313 := bnf BK313 hg; replace HO_39 := Aside0.mk (Kd.S_below (Kd.S_elderB (kS HO_39) gb317 (Nat.le_of_eq hg.symm)) hb); replace HO_314000 := Aside0.mk (Kd.S_below (kS HO_314000) hb); replace HO_314001 := Aside0.mk (Kd.S_below (Kd.S_elderB (kS HO_314001) gb317 (Nat.le_of_eq hg.symm)) hb); replace HL316_1 := Aside0.mk (Kd.R_below (by (with_reducible repeat (first | apply Kd.R_alloc | apply Kd.R_drewN | apply Kd.R_drew)); exact HL316_1.out) hb); replace HL316_2 := Aside0.mk (Kd.R_below (by (with_reducible repeat (first | apply Kd.R_alloc | apply Kd.R_drewN | apply Kd.R_drew)); exact HL316_2.out) hb); replace HL316_3 := Aside0.mk (Kd.R_below (by (with_reducible repeat (first | apply Kd.R_alloc | apply Kd.R_drewN | apply Kd.R_drew)); exact HL316_3.out) hb); replace BK305 := bkb BK305 hb; replace BK313 := bkb BK313 hb; replace HR316_1 := Aside0.mk (Kd.C_below (by repeat (first | (with_reducible exact HR316_1.out) | (with_reducible refine Kd.C_alloc ?_ _) | (with_reducible refine Kd.C_drewN ?_ _) | (with_reducible refine Kd.C_drew ?_) | exact HR316_1.out)) hb); replace HR316_2 := Aside0.mk (Kd.C_below (by repeat (first | (with_reducible exact HR316_2.out) | (with_reducible refine Kd.C_alloc ?_ _) | (with_reducible refine Kd.C_drewN ?_ _) | (with_reducible refine Kd.C_drew ?_) | exact HR316_2.out)) hb); replace HR316_3 := Aside0.mk (Kd.C_below (by repeat (first | (with_reducible exact HR316_3.out) | (with_reducible refine Kd.C_alloc ?_ _) | (with_reducible refine Kd.C_drewN ?_ _) | (with_reducible refine Kd.C_drew ?_) | exact HR316_3.out)) hb); replace HB := bst hb; clear hb hbox hg; have hnb27 := NB317_305.out; have hnc27 := NB305_317.out; have hnb28 := NB317_313.out; have hnc28 := NB313_317.out; obtain ⟨hcz29_0, hcz29_1, hcz29_2, hcz29_3, hcz29_4, hfz29_0, hfz29_1, hfz29_2, hfz29_3, hfz29_4⟩ := bc5 BK317))
          go_roundg k2
          case measure => have := HK1.out; have := HK2.out; omega
          case rel => exact ⟨(wrap64 (x4_2 + (wrap64 ((wrap64 ((((rd_T46 t310 x41_2).f1).length : Int) + (((rd_T46 t310 x41_2).f2).length : Int))) + (((rd_T46 t310 x41_2).f3).length : Int))))), (wrap64 (x41_2 + 1)), (by first | rfl | (simp; done) | (simp [*]; done)), (by first | rfl | (simp; done) | (simp [*]; done)), H', ⟨by have := HK1.out; have := HK2.out; omega⟩, ⟨by (with_reducible repeat (first | apply Kd.S_alloc | apply Kd.S_drewN | apply Kd.S_drew)); exact Kd.S_mono (Kd.S_far (p := ⟨gb317, 4, none⟩) (Kd.S_far (p := ⟨gb317, 3, none⟩) (Kd.S_far (p := ⟨gb317, 2, none⟩) (Kd.S_far (p := ⟨gb317, 1, none⟩) (Kd.S_far (p := ⟨gb317, 0, none⟩) (Kd.S_mono HO_39.out (fun k_ hk => (⟨hk, hk.2⟩ : _ ∧ k_ ≠ gb317))) (fun _ hk => hk.2) (.string ((rd_T46 t310 x41_2).f0))) (fun _ hk => hk.2) (.slice A316_1 ((rd_T46 t310 x41_2).f1).length c316_1)) (fun _ hk => hk.2) (.slice A316_2 ((rd_T46 t310 x41_2).f2).length c316_2)) (fun _ hk => hk.2) (.slice A316_3 ((rd_T46 t310 x41_2).f3).length c316_3)) (fun _ hk => hk.2) (.int .i64 ((rd_T46 t310 x41_2).f4))) (fun _ hk => trivial)⟩, ⟨by (with_reducible repeat (first | apply Kd.S_alloc | apply Kd.S_drewN | apply Kd.S_drew)); exact Kd.S_mono (Kd.S_far (p := ⟨gb317, 4, none⟩) (Kd.S_far (p := ⟨gb317, 3, none⟩) (Kd.S_far (p := ⟨gb317, 2, none⟩) (Kd.S_far (p := ⟨gb317, 1, none⟩) (Kd.S_far (p := ⟨gb317, 0, none⟩) (Kd.S_types HO_314000.out BK317.out (by decide)) (fun _ hk => hk.2) (.string ((rd_T46 t310 x41_2).f0))) (fun _ hk => hk.2) (.slice A316_1 ((rd_T46 t310 x41_2).f1).length c316_1)) (fun _ hk => hk.2) (.slice A316_2 ((rd_T46 t310 x41_2).f2).length c316_2)) (fun _ hk => hk.2) (.slice A316_3 ((rd_T46 t310 x41_2).f3).length c316_3)) (fun _ hk => hk.2) (.int .i64 ((rd_T46 t310 x41_2).f4))) (fun _ hk => trivial)⟩, ⟨by (with_reducible repeat (first | apply Kd.S_alloc | apply Kd.S_drewN | apply Kd.S_drew)); exact Kd.S_mono (Kd.S_far (p := ⟨gb317, 4, none⟩) (Kd.S_far (p := ⟨gb317, 3, none⟩) (Kd.S_far (p := ⟨gb317, 2, none⟩) (Kd.S_far (p := ⟨gb317, 1, none⟩) (Kd.S_far (p := ⟨gb317, 0, none⟩) (Kd.S_mono HO_314001.out (fun k_ hk => (⟨hk, hk.2⟩ : _ ∧ k_ ≠ gb317))) (fun _ hk => hk.2) (.string ((rd_T46 t310 x41_2).f0))) (fun _ hk => hk.2) (.slice A316_1 ((rd_T46 t310 x41_2).f1).length c316_1)) (fun _ hk => hk.2) (.slice A316_2 ((rd_T46 t310 x41_2).f2).length c316_2)) (fun _ hk => hk.2) (.slice A316_3 ((rd_T46 t310 x41_2).f3).length c316_3)) (fun _ hk => hk.2) (.int .i64 ((rd_T46 t310 x41_2).f4))) (fun _ hk => trivial)⟩, ⟨bkq BK305⟩, ⟨bkq BK313⟩, ⟨by repeat (first | (with_reducible first | exact HB.out | apply below_alloc | apply pw_below_drewN | apply below_drew1 | refine below_set ?_ GE305.out | refine below_set ?_ GE313.out | refine below_set ?_ GE317.out) | exact HB.out)⟩⟩
         ·rw [if_neg c25] at H
          exact absurd H (by simp)
        ·rw [if_neg c24] at H
         exact absurd H (by simp)
       ·rw [if_neg c23] at H
        have c23b0 := decide_eq_false c23
        clear c23
        replace H := Option.bind_eq_some_iff.mp H
        obtain ⟨t318, A300, H⟩ := H
        replace H : (maquettelaw07_TextLines.l2 k2 x4_2 t318 0 0) = some r := H
        have A30 := Aside0.mk A300
        clear A300
        have H' := Aside0.mk H
        clear H
        have hnb31 := NB313_305.out
        have hnc31 := NB305_313.out
        obtain ⟨hcz32_0, hcz32_1, hfz32_0, hfz32_1⟩ := bc2 BK313
        go_wp2_with (first | ((with_reducible refine gate_dst (N := 60) rfl ?_); refine gl (some 60) Tryd.func10 #[.agg #[.slice Ao10 t307.length co10, .slice Ao13 t310.length co13]] ?_; (with_reducible refine (text_Config.calls k2 _ _ t307 _ _ t310 t318 _ ?side1 ?side2 ?side3 ?side4 A30.out (Go.Proofs.YtjcopneljfcfoaaDoor.Inv.ivb hInv)).mono ?_); (case side1 => repeat (first | exact (Kd.S_reads' HO_314000.out).2.2 | (with_reducible refine Kd.C_alloc ?_ _) | (with_reducible refine Kd.C_drewN ?_ _) | (with_reducible refine Kd.C_drew ?_))); (case side2 => exact (Kd.S_reads' HO_314000.out).2.1); (case side3 => repeat (first | exact (Kd.S_reads' HO_314001.out).2.2 | (with_reducible refine Kd.C_alloc ?_ _) | (with_reducible refine Kd.C_drewN ?_ _) | (with_reducible refine Kd.C_drew ?_))); (case side4 => exact (Kd.S_reads' HO_314001.out).2.1); rintro e w33 ⟨rfl, hb⟩; refine ⟨_, rfl, ?_⟩; replace HO_39 := Aside0.mk (Kd.S_below (kS HO_39) hb); replace HO_314000 := Aside0.mk (Kd.S_below (kS HO_314000) hb); replace HO_314001 := Aside0.mk (Kd.S_below (kS HO_314001) hb); replace BK305 := bkb BK305 hb; replace BK313 := bkb BK313 hb; replace HB := bst hb; (try clear hb); (try clear hb2); (try clear hk); (try clear hi)))
        go_loopg [10, 11] k2 (fun kq v10 v11 w' => ∃ (x10_3 : Int) (x11_3 : Int), v10 = .int .i64 x10_3 ∧ v11 = .int .i64 x11_3 ∧ Aside0 (maquettelaw07_TextLines.l2 kq x4_2 t318 x10_3 x11_3 = some r) ∧ Aside0 (kq ≤ k2) ∧ Aside0 (Kd.S k36 36 w' w.heap.size (fun _ => True) (.slice Ao10 t307.length co10) t307) ∧ Aside0 (Kd.S k46 46 w' w.heap.size (fun _ => True) (.slice Ao13 t310.length co13) t310) ∧ Aside0 (w'.heap[gb305]? = some (.cells #[.int .u8 a0_0, (.slice A0_1 l0_1.length c0_1), (.slice A0_2 l0_2.length c0_2), (.slice A0_3 l0_3.length c0_3), (.slice A0_4 l0_4.length c0_4), (.slice A0_5 l0_5.length c0_5)] 25 (0, 0))) ∧ Aside0 (w'.heap[gb313]? = some (.cells #[(.slice Ao10 t307.length co10), (.slice Ao13 t310.length co13)] 30 (0, 0))) ∧ Aside0 (Below w.heap.size w w'))
        case atStart => exact ⟨(0), (0), (by first | rfl | (simp; done) | (simp [*]; done)), (by first | rfl | (simp; done) | (simp [*]; done)), H', ⟨Nat.le_refl _⟩, ⟨by (with_reducible repeat (first | apply Kd.S_alloc | apply Kd.S_drewN | apply Kd.S_drew)); exact HO_314000.out⟩, ⟨by (with_reducible repeat (first | apply Kd.S_alloc | apply Kd.S_drewN | apply Kd.S_drew)); exact HO_314001.out⟩, ⟨bkq BK305⟩, ⟨bkq BK313⟩, ⟨by repeat (first | (with_reducible first | exact HB.out | apply below_alloc | apply pw_below_drewN | apply below_drew1 | refine below_set ?_ GE305.out | refine below_set ?_ GE313.out) | exact HB.out)⟩⟩
        case round =>
         clear H'
         try clear c1
         try clear c2
         try clear p2 p2
         try clear c3
         try clear p3 p3
         try clear q3 q3
         try clear hx3
         try clear c5
         try clear p6 p6
         try clear c8
         try clear c9
         try clear c10
         try clear c11
         try clear c14
         try clear c14b0
         try clear c15
         try clear c15b0
         try clear c16
         try clear c16b0
         try clear c18
         try clear c19
         try clear c21
         try clear c23
         try clear c23b0
         try clear c24
         try clear c24b0
         try clear c25
         try clear c25b0
         try clear c27
         try clear c28
         try clear c31
         try clear p31
         try clear q31
         try clear hx31
         try clear hcz12_0 hcz12_1 hfz12_0 hfz12_1
         try clear hcz20_0 hcz20_1 hcz20_2 hfz20_0 hfz20_1 hfz20_2
         try clear hcz22_0 hcz22_1 hfz22_0 hfz22_1
         try clear hcz29_0 hcz29_1 hcz29_2 hcz29_3 hcz29_4 hfz29_0 hfz29_1 hfz29_2 hfz29_3 hfz29_4
         try clear hcz32_0 hcz32_1 hfz32_0 hfz32_1
         try clear hcz7_0 hcz7_1 hcz7_2 hcz7_3 hcz7_4 hcz7_5 hfz7_0 hfz7_1 hfz7_2 hfz7_3 hfz7_4 hfz7_5
         try clear hx314_0
         try clear hx314_1
         try clear hx314_2
         try clear hx316_0
         try clear hx316_1
         try clear hx316_2
         try clear hx316_3
         try clear hx316_4
         try clear p314
         try clear p316
         try clear q314
         try clear q316
         obtain ⟨x10_3, x11_3, rfl, rfl, HA, HK3, HO_314000, HO_314001, BK305, BK313, HB⟩ := hrel
         cases gk with
         | zero => exact absurd HA.out (by simp [maquettelaw07_TextLines.l2])
         | succ k3 =>
          have H := HA.out
          clear HA
          simp only [maquettelaw07_TextLines.l2] at H
          by_cases c34 : x11_3 < (t318.size : Int)
          ·rw [if_pos c34] at H
           have c34b0 := decide_eq_true c34
           clear c34
           by_cases c35 : 0 ≤ x11_3
           ·rw [if_pos c35] at H
            have c35b0 := decide_eq_true c35
            clear c35
            by_cases c37 : (bt t318 x11_3) = 10
            ·rw [if_pos c37] at H
             have c37b0 : ((bt t318 x11_3) == 10) = true := beq_iff_eq.mpr c37
             have c37b1 : ((bt t318 x11_3) != 10) = false := bne_eq_false_iff_eq.mpr c37
             clear c37
             have H' := Aside0.mk H
             clear H
             have p36 : 0 ≤ (x11_3 : Int) := of_decide_eq_true (by first | (with_reducible assumption) | assumption)
             have q36 : x11_3 < (t318.size : Int) := of_decide_eq_true (by first | (with_reducible assumption) | assumption)
             have hx36 := bt_at t318 x11_3
             replace p36 := eq_true p36
             replace q36 := eq_true q36
             go_wp2
             go_roundg k3
             case measure => have := HK1.out; have := HK2.out; have := HK3.out; omega
             case rel => exact ⟨(wrap64 (x10_3 + 1)), (wrap64 (x11_3 + 1)), (by first | rfl | (simp; done) | (simp [*]; done)), (by first | rfl | (simp; done) | (simp [*]; done)), H', ⟨by have := HK1.out; have := HK2.out; have := HK3.out; omega⟩, ⟨by (with_reducible repeat (first | apply Kd.S_alloc | apply Kd.S_drewN | apply Kd.S_drew)); exact HO_314000.out⟩, ⟨by (with_reducible repeat (first | apply Kd.S_alloc | apply Kd.S_drewN | apply Kd.S_drew)); exact HO_314001.out⟩, ⟨bkq BK305⟩, ⟨bkq BK313⟩, ⟨by repeat (first | (with_reducible first | exact HB.out | apply below_alloc | apply pw_below_drewN | apply below_drew1 | refine below_set ?_ GE305.out | refine below_set ?_ GE313.out) | exact HB.out)⟩⟩
            ·rw [if_neg c37] at H
             have c37b0 : ((bt t318 x11_3) == 10) = false := beq_eq_false_iff_ne.mpr c37
             have c37b1 : ((bt t318 x11_3) != 10) = true := bne_iff_ne.mpr c37
             have H' := Aside0.mk H
             clear H
             have p36 : 0 ≤ (x11_3 : Int) := of_decide_eq_true (by first | (with_reducible assumption) | assumption)
             have q36 : x11_3 < (t318.size : Int) := of_decide_eq_true (by first | (with_reducible assumption) | assumption)
             have hx36 := bt_at t318 x11_3
             replace p36 := eq_true p36
             replace q36 := eq_true q36
             go_wp2
             go_roundg k3
             case measure => have := HK1.out; have := HK2.out; have := HK3.out; omega
             case rel => exact ⟨(x10_3), (wrap64 (x11_3 + 1)), (by first | rfl | (simp; done) | (simp [*]; done)), (by first | rfl | (simp; done) | (simp [*]; done)), H', ⟨by have := HK1.out; have := HK2.out; have := HK3.out; omega⟩, ⟨by (with_reducible repeat (first | apply Kd.S_alloc | apply Kd.S_drewN | apply Kd.S_drew)); exact HO_314000.out⟩, ⟨by (with_reducible repeat (first | apply Kd.S_alloc | apply Kd.S_drewN | apply Kd.S_drew)); exact HO_314001.out⟩, ⟨bkq BK305⟩, ⟨bkq BK313⟩, ⟨by repeat (first | (with_reducible first | exact HB.out | apply below_alloc | apply pw_below_drewN | apply below_drew1 | refine below_set ?_ GE305.out | refine below_set ?_ GE313.out) | exact HB.out)⟩⟩
           ·rw [if_neg c35] at H
            exact absurd H (by simp)
          ·rw [if_neg c34] at H
           have c34b0 := decide_eq_false c34
           clear c34
           by_cases c38 : x10_3 = x4_2
           ·rw [if_pos c38] at H
            have c38b0 : (x10_3 == x4_2) = true := beq_iff_eq.mpr c38
            have c38b1 : (x10_3 != x4_2) = false := bne_eq_false_iff_eq.mpr c38
            clear c38
            by_cases c39 : (t318.size : Int) = 0
            ·rw [if_pos c39] at H
             have c39b0 : ((t318.size : Int) == 0) = true := beq_iff_eq.mpr c39
             have c39b1 : ((t318.size : Int) != 0) = false := bne_eq_false_iff_eq.mpr c39
             clear c39
             obtain rfl := Option.some.inj H
             go_wp2
             go_ret
             exact ⟨by first | rfl | (simp [errW_none, errW_some] <;> rfl) | (simp [*, errW_none, errW_some] <;> rfl), by repeat (first | (with_reducible first | exact HB.out | apply below_alloc | apply pw_below_drewN | apply below_drew1 | refine below_set ?_ GE305.out | refine below_set ?_ GE313.out) | exact HB.out)⟩
            ·rw [if_neg c39] at H
             have c39b0 : ((t318.size : Int) == 0) = false := beq_eq_false_iff_ne.mpr c39
             have c39b1 : ((t318.size : Int) != 0) = true := bne_iff_ne.mpr c39
             obtain ⟨ji40, hji40⟩ : ∃ j_ : Int, (wrap64 ((t318.size : Int) - 1)) = j_ := ⟨_, rfl⟩
             replace H : (if 0 ≤ (ji40) then (if (ji40) < (t318.size : Int) then (some ((bt t318 (ji40)) == 10)) else (none)) else (none)) = some r := by first | (rw [hji40] at H; exact H) | (simp only [hji40] at H ⊢; exact H)
             have hji40w : (IntKind.i64.wrap ((t318.size : Int) - 1)) = ji40 := (i64_w _).trans hji40
             by_cases c41 : 0 ≤ (ji40)
             ·rw [if_pos c41] at H
              have c41b0 := decide_eq_true c41
              clear c41
              by_cases c42 : (ji40) < (t318.size : Int)
              ·rw [if_pos c42] at H
               have c42b0 := decide_eq_true c42
               clear c42
               obtain rfl := Option.some.inj H
               have p43 : 0 ≤ ((ji40) : Int) := of_decide_eq_true (by first | (with_reducible assumption) | assumption)
               have q43 : (ji40) < (t318.size : Int) := of_decide_eq_true (by first | (with_reducible assumption) | assumption)
               have hx43 := bt_at t318 (ji40)
               replace p43 := eq_true p43
               replace q43 := eq_true q43
               go_wp2
               go_ret
               exact ⟨by first | rfl | (simp [errW_none, errW_some] <;> rfl) | (simp only [← hji40]; first | rfl | (simp [errW_none, errW_some] <;> rfl)) | (simp [*, errW_none, errW_some] <;> rfl), by repeat (first | (with_reducible first | exact HB.out | apply below_alloc | apply pw_below_drewN | apply below_drew1 | refine below_set ?_ GE305.out | refine below_set ?_ GE313.out) | exact HB.out)⟩
              ·rw [if_neg c42] at H
               exact absurd H (by simp)
             ·rw [if_neg c41] at H
              exact absurd H (by simp)
           ·rw [if_neg c38] at H
            have c38b0 : (x10_3 == x4_2) = false := beq_eq_false_iff_ne.mpr c38
            have c38b1 : (x10_3 != x4_2) = true := bne_iff_ne.mpr c38
            obtain rfl := Option.some.inj H
            go_wp2
            go_ret
            exact ⟨by first | rfl | (simp [errW_none, errW_some] <;> rfl) | (simp [*, errW_none, errW_some] <;> rfl), by repeat (first | (with_reducible first | exact HB.out | apply below_alloc | apply pw_below_drewN | apply below_drew1 | refine below_set ?_ GE305.out | refine below_set ?_ GE313.out) | exact HB.out)⟩
 ·replace c3 := Bool.eq_false_iff.mpr c3
  subst c3
  have H1 : (some false) = some r := by rw [if_neg (show ¬ (false = true) by decide)] at H; exact H
  clear H
  have H := H1
  clear H1
  obtain rfl := Option.some.inj H
  go_enter Tryd.func5, Tryd.ntmps5
  go_wp2_with (first | ((with_reducible refine gate_dst (N := 1) rfl ?_); (try (refine gate_guard (by rfl) ?_; dsimp only)); refine bx 1 (cs := #[.int .u8 a0_0, .slice A0_1 l0_1.length c0_1, .slice A0_2 l0_2.length c0_2, .slice A0_3 l0_3.length c0_3, .slice A0_4 l0_4.length c0_4, .slice A0_5 l0_5.length c0_5]) (t := 25) (h := ?_); intro gb305 hg w44 hbox hb; have BK305 := Aside0.mk hbox; have GW305 : Aside0 (w.heap.size ≤ gb305) := bge hg; have GE305 : Aside0 (w.heap.size ≤ gb305) := bge hg; replace HB := bst hb; clear hb hbox hg) | ((with_reducible refine gate_dst (N := 12) rfl ?_); refine gl (some 12) Tryd.func8 #[] ?_; (with_reducible refine (maquettelaw07_awake.calls k  false _ A2.out (Go.Proofs.YtjcopneljfcfoaaDoor.Inv.ivb hInv)).mono ?_); rintro e w45 ⟨rfl, hb⟩; refine ⟨_, rfl, ?_⟩; replace BK305 := bkb BK305 hb; replace HB := bst hb; (try clear hb); (try clear hb2); (try clear hk); (try clear hi)))
  go_ret
  exact ⟨by first | rfl | (simp [errW_none, errW_some] <;> rfl) | (simp [*, errW_none, errW_some] <;> rfl), by repeat (first | (with_reducible first | exact HB.out | apply below_alloc | apply pw_below_drewN | apply below_drew1 | refine below_set ?_ GE305.out) | exact HB.out)⟩

end Go.Proofs.YtjcopneljfcfoaaDoor.PRaw
