-- Written by wip/xprint.py of this work: the printer of the kit, with contracts of this work beside it, shortened.
import Derived.Test.YtjcopneljfcfoaaDoorShort
import Derived.Test.YtjcopneljfcfoaaDoorPRawx0
import Derived.Test.YtjcopneljfcfoaaDoorPRawx12
import Derived.Test.YtjcopneljfcfoaaDoorPRawx17
import Derived.Test.YtjcopneljfcfoaaDoorPRawx25
import Derived.Test.YtjcopneljfcfoaaDoorPRawx28
namespace Go.Proofs.YtjcopneljfcfoaaDoor.PRaw
open Go.RowKit Go.Proofs.YtjcopneljfcfoaaDoor.Short Go.Proofs.YtjcopneljfcfoaaDoorW.PrintWords Go.Proofs.YtjcopneljfcfoaaDoorW.PrintLast Go.Proofs.YtjcopneljfcfoaaDoorW.PrintMore
attribute [local go_sem] max2_int min2_int max_two min_two max_three min_three max_four min_four   -- for this text's walks alone
set_option linter.unusedVariables false
set_option linter.unusedSimpArgs false

/-! ### maquettelaw07_TextSame: function 7 -/
def maquettelaw07_TextSame.l0 : Nat → Int → Int → Int → List (S36) → List (S46) → List (S36) → List (S46) → List (S36) → List (S46) → Option (Bool)
 | 0, _, _, _, _, _, _, _, _, _ => none
 | k + 1, x2, x21, x22, x292000, x292001, x293000, x293001, x300000, x300001 => if x22 < x21 then (if 0 ≤ x22 then (if x22 < (x300001.length : Int) then (maquettelaw07_TextSame.l0 k x2 x21 (wrap64 (x22 + 1)) x292000 x292001 x293000 x293001 x300000 (x300001.set (x22 : Int).toNat (⟨(rd_T46 x300001 x22).f0, (rd_T46 x300001 x22).f1, (rd_T46 x300001 x22).f2, (rd_T46 x300001 x22).f3, x2⟩ : S46))) else (none)) else (none)) else ((text_Same.f k x292000 x292001 x293000 x293001).bind fun t301 => ((maquettelaw07_Text.f k x292000 x292001).bind fun t302 => ((maquettelaw07_Text.f k x293000 x293001).bind fun t303 => (if (t301 == (t302.toList == t303.toList)) = true then ((text_Same.f k x292000 x292001 x300000 x300001).bind fun t304 => (some t304)) else (some false)))))
def maquettelaw07_TextSame.f (k : Nat) (a0_0 : Int) (l0_1 : List Int) (l0_2 : List (List (S74))) (l0_3 : List Int) (l0_4 : List Int) (l0_5 : List Int) (a1_0 : Int) (l1_1 : List Int) (l1_2 : List (List (S74))) (l1_3 : List Int) (l1_4 : List Int) (l1_5 : List Int) (a2 : Int) : Option (Bool) := (maquettelaw07_awake.f k).bind fun t278 => (if t278 = true then ((maquettelaw07_Shape_Config.f k a0_0 l0_1 l0_2 l0_3 l0_4 l0_5).bind fun bt279 => ((maquettelaw07_Shape_Config.f k a1_0 l1_1 l1_2 l1_3 l1_4 l1_5).bind fun bt285 => ((maquettelaw07_Shape_Config.f k a0_0 l0_1 l0_2 l0_3 l0_4 l0_5).bind fun bt293 => (maquettelaw07_TextSame.l0 k a2 (bt293.2.length : Int) 0 bt279.1 bt279.2 bt285.1 bt285.2 bt293.1 bt293.2)))) else (some false))
theorem maquettelaw07_TextSame.mono_l : ∀ k, (∀ y0 y1 y2 y3 y4 y5 y6 y7 y8, LeO (maquettelaw07_TextSame.l0 k y0 y1 y2 y3 y4 y5 y6 y7 y8) (maquettelaw07_TextSame.l0 (k + 1) y0 y1 y2 y3 y4 y5 y6 y7 y8))
 | 0 => fun _ _ _ _ _ _ _ _ _ r h => by simp [maquettelaw07_TextSame.l0] at h
 | k + 1 => by
  have ih0 := maquettelaw07_TextSame.mono_l k
  ·intro y0 y1 y2 y3 y4 y5 y6 y7 y8
   unfold maquettelaw07_TextSame.l0
   repeat' first
   | (with_reducible exact ih0 _ _ _ _ _ _ _ _ _)
   | (with_reducible exact maquettelaw07_Shape_Config.mono _ _ _ _ _ _ _)
   | (with_reducible exact maquettelaw07_Text.mono _ _ _)
   | (with_reducible exact maquettelaw07_awake.mono _)
   | (with_reducible exact text_Same.mono _ _ _ _ _)
   | (with_reducible exact LeO.refl _)
   | (with_reducible exact LeO.none _)
   | (with_reducible refine LeO.ite ?_ ?_)
   | (with_reducible refine LeO.bind ?_ (fun _ => ?_))
   | exact ih0 _ _ _ _ _ _ _ _ _
   | exact maquettelaw07_Shape_Config.mono _ _ _ _ _ _ _
   | exact maquettelaw07_Text.mono _ _ _
   | exact maquettelaw07_awake.mono _
   | exact text_Same.mono _ _ _ _ _
   | exact LeO.none _
   | refine LeO.ite ?_ ?_
   | refine LeO.bind ?_ (fun _ => ?_)
theorem maquettelaw07_TextSame.mono : ∀ a0 a1 a2 a3 a4 a5 a6 a7 a8 a9 a10 a11 a12 k, LeO (maquettelaw07_TextSame.f k a0 a1 a2 a3 a4 a5 a6 a7 a8 a9 a10 a11 a12) (maquettelaw07_TextSame.f (k + 1) a0 a1 a2 a3 a4 a5 a6 a7 a8 a9 a10 a11 a12) := by
 intro a0 a1 a2 a3 a4 a5 a6 a7 a8 a9 a10 a11 a12 k
 have ih0 := maquettelaw07_TextSame.mono_l k
 unfold maquettelaw07_TextSame.f
 repeat' first
   | (with_reducible exact ih0 _ _ _ _ _ _ _ _ _)
   | (with_reducible exact maquettelaw07_Shape_Config.mono _ _ _ _ _ _ _)
   | (with_reducible exact maquettelaw07_Text.mono _ _ _)
   | (with_reducible exact maquettelaw07_awake.mono _)
   | (with_reducible exact text_Same.mono _ _ _ _ _)
   | (with_reducible exact LeO.refl _)
   | (with_reducible exact LeO.none _)
   | (with_reducible refine LeO.ite ?_ ?_)
   | (with_reducible refine LeO.bind ?_ (fun _ => ?_))
   | exact ih0 _ _ _ _ _ _ _ _ _
   | exact maquettelaw07_Shape_Config.mono _ _ _ _ _ _ _
   | exact maquettelaw07_Text.mono _ _ _
   | exact maquettelaw07_awake.mono _
   | exact text_Same.mono _ _ _ _ _
   | exact LeO.none _
   | refine LeO.ite ?_ ?_
   | refine LeO.bind ?_ (fun _ => ?_)
def maquettelaw07_TextSame.T3 : Bool × List (List Nat × List Nat) := (true, [([], []), ([0], [0]), ([], []), ([2, 1], [2]), ([], []), ([], []), ([4, 1, 3, 0, 1, 4, 5], [1, 4]), ([5, 3, 6, 0, 1, 2, 3, 4, 5, 6], [3, 5])])
def maquettelaw07_TextSame.B3 : List Nat := [0, 1, 0, 7, 0, 0, 63, 127]
theorem maquettelaw07_TextSame.tab3 : rtab .any (opsOf Tryd.f7 3) = maquettelaw07_TextSame.T3 := by kernel_rfl
theorem maquettelaw07_TextSame.bits3 : waitsOk maquettelaw07_TextSame.T3.2 maquettelaw07_TextSame.B3 = true := by kernel_rfl
def maquettelaw07_TextSame.T10 : Bool × List (List Nat × List Nat) := (true, [([], []), ([], []), ([0, 1], [0, 1]), ([], []), ([3, 2], [3]), ([], []), ([5, 4], [5]), ([4, 6], [4, 6]), ([2, 7], [2, 7]), ([8, 6], [8]), ([9], [9]), ([9], [9]), ([10, 11, 9, 9], [9, 10, 11]), ([9, 12], [9, 12]), ([13, 12, 0, 1, 2, 3, 4, 5, 6, 7, 8, 9, 10, 11, 12, 13], [13])])
def maquettelaw07_TextSame.B10 : List Nat := [0, 0, 3, 0, 15, 0, 63, 127, 255, 511, 1023, 1023, 4095, 8191, 16383]
theorem maquettelaw07_TextSame.tab10 : rtab .any (opsOf Tryd.f7 10) = maquettelaw07_TextSame.T10 := by kernel_rfl
theorem maquettelaw07_TextSame.bits10 : waitsOk maquettelaw07_TextSame.T10.2 maquettelaw07_TextSame.B10 = true := by kernel_rfl
set_option maxHeartbeats 8000000 in
set_option maxRecDepth 100000 in
theorem maquettelaw07_TextSame.calls (k : Nat) (a0_0 : Int) (A0_1 : Option Addr) (c0_1 : Nat) (l0_1 : List Int) (A0_2 : Option Addr) (c0_2 : Nat) (l0_2 : List (List (S74))) (A0_3 : Option Addr) (c0_3 : Nat) (l0_3 : List Int) (A0_4 : Option Addr) (c0_4 : Nat) (l0_4 : List Int) (A0_5 : Option Addr) (c0_5 : Nat) (l0_5 : List Int) (a1_0 : Int) (A1_1 : Option Addr) (c1_1 : Nat) (l1_1 : List Int) (A1_2 : Option Addr) (c1_2 : Nat) (l1_2 : List (List (S74))) (A1_3 : Option Addr) (c1_3 : Nat) (l1_3 : List Int) (A1_4 : Option Addr) (c1_4 : Nat) (l1_4 : List Int) (A1_5 : Option Addr) (c1_5 : Nat) (l1_5 : List Int) (a2 : Int) (r : Bool) (w : World) (hr0_1 : Kd.C (Kd.int .u8) w A0_1 l0_1.length l0_1) (hc0_1 : l0_1.length ≤ c0_1) (hr0_2 : Kd.C (Kd.slice 74 k74) w A0_2 l0_2.length l0_2) (hc0_2 : l0_2.length ≤ c0_2) (hr0_3 : Kd.C (Kd.int .u8) w A0_3 l0_3.length l0_3) (hc0_3 : l0_3.length ≤ c0_3) (hr0_4 : Kd.C (Kd.int .u8) w A0_4 l0_4.length l0_4) (hc0_4 : l0_4.length ≤ c0_4) (hr0_5 : Kd.C (Kd.int .u8) w A0_5 l0_5.length l0_5) (hc0_5 : l0_5.length ≤ c0_5) (hr1_1 : Kd.C (Kd.int .u8) w A1_1 l1_1.length l1_1) (hc1_1 : l1_1.length ≤ c1_1) (hr1_2 : Kd.C (Kd.slice 74 k74) w A1_2 l1_2.length l1_2) (hc1_2 : l1_2.length ≤ c1_2) (hr1_3 : Kd.C (Kd.int .u8) w A1_3 l1_3.length l1_3) (hc1_3 : l1_3.length ≤ c1_3) (hr1_4 : Kd.C (Kd.int .u8) w A1_4 l1_4.length l1_4) (hc1_4 : l1_4.length ≤ c1_4) (hr1_5 : Kd.C (Kd.int .u8) w A1_5 l1_5.length l1_5) (hc1_5 : l1_5.length ≤ c1_5) (h : maquettelaw07_TextSame.f k a0_0 l0_1 l0_2 l0_3 l0_4 l0_5 a1_0 l1_1 l1_2 l1_3 l1_4 l1_5 a2 = some r) (hInv : Go.Proofs.YtjcopneljfcfoaaDoor.Inv.Inv w) :
  Calls Tryd.prog 7 #[.agg #[.int .u8 a0_0, .slice A0_1 l0_1.length c0_1, .slice A0_2 l0_2.length c0_2, .slice A0_3 l0_3.length c0_3, .slice A0_4 l0_4.length c0_4, .slice A0_5 l0_5.length c0_5], .agg #[.int .u8 a1_0, .slice A1_1 l1_1.length c1_1, .slice A1_2 l1_2.length c1_2, .slice A1_3 l1_3.length c1_3, .slice A1_4 l1_4.length c1_4, .slice A1_5 l1_5.length c1_5], .int .i64 a2] w fun e w' => e = .returned (.bool r) ∧ Below w.heap.size w w' := by
 have hu25 := Tryd.underlying25
 have hu30 := Tryd.underlying30
 have HR0_1 := Aside0.mk hr0_1
 have HC0_1 := Aside0.mk hc0_1
 clear hr0_1 hc0_1
 have HR0_2 := Aside0.mk hr0_2
 have HC0_2 := Aside0.mk hc0_2
 clear hr0_2 hc0_2
 have HR0_3 := Aside0.mk hr0_3
 have HC0_3 := Aside0.mk hc0_3
 clear hr0_3 hc0_3
 have HR0_4 := Aside0.mk hr0_4
 have HC0_4 := Aside0.mk hc0_4
 clear hr0_4 hc0_4
 have HR0_5 := Aside0.mk hr0_5
 have HC0_5 := Aside0.mk hc0_5
 clear hr0_5 hc0_5
 have HR1_1 := Aside0.mk hr1_1
 have HC1_1 := Aside0.mk hc1_1
 clear hr1_1 hc1_1
 have HR1_2 := Aside0.mk hr1_2
 have HC1_2 := Aside0.mk hc1_2
 clear hr1_2 hc1_2
 have HR1_3 := Aside0.mk hr1_3
 have HC1_3 := Aside0.mk hc1_3
 clear hr1_3 hc1_3
 have HR1_4 := Aside0.mk hr1_4
 have HC1_4 := Aside0.mk hc1_4
 clear hr1_4 hc1_4
 have HR1_5 := Aside0.mk hr1_5
 have HC1_5 := Aside0.mk hc1_5
 clear hr1_5 hc1_5
 have HB := Aside0.mk (Below.refl w.heap.size w)
 have H : ((maquettelaw07_awake.f k).bind fun t278 => (if t278 = true then ((maquettelaw07_Shape_Config.f k a0_0 l0_1 l0_2 l0_3 l0_4 l0_5).bind fun bt279 => ((maquettelaw07_Shape_Config.f k a1_0 l1_1 l1_2 l1_3 l1_4 l1_5).bind fun bt285 => ((maquettelaw07_Shape_Config.f k a0_0 l0_1 l0_2 l0_3 l0_4 l0_5).bind fun bt293 => (maquettelaw07_TextSame.l0 k a2 (bt293.2.length : Int) 0 bt279.1 bt279.2 bt285.1 bt285.2 bt293.1 bt293.2)))) else (some false))) = some r := h
 clear h
 replace H := Option.bind_eq_some_iff.mp H
 obtain ⟨t278, A40, H⟩ := H
 replace H : (if t278 = true then ((maquettelaw07_Shape_Config.f k a0_0 l0_1 l0_2 l0_3 l0_4 l0_5).bind fun bt279 => ((maquettelaw07_Shape_Config.f k a1_0 l1_1 l1_2 l1_3 l1_4 l1_5).bind fun bt285 => ((maquettelaw07_Shape_Config.f k a0_0 l0_1 l0_2 l0_3 l0_4 l0_5).bind fun bt293 => (maquettelaw07_TextSame.l0 k a2 (bt293.2.length : Int) 0 bt279.1 bt279.2 bt285.1 bt285.2 bt293.1 bt293.2)))) else (some false)) = some r := H
 have A4 := Aside0.mk A40
 clear A40
 by_cases c5 : t278 = true
 ·subst c5
  have H1 : ((maquettelaw07_Shape_Config.f k a0_0 l0_1 l0_2 l0_3 l0_4 l0_5).bind fun bt279 => ((maquettelaw07_Shape_Config.f k a1_0 l1_1 l1_2 l1_3 l1_4 l1_5).bind fun bt285 => ((maquettelaw07_Shape_Config.f k a0_0 l0_1 l0_2 l0_3 l0_4 l0_5).bind fun bt293 => (maquettelaw07_TextSame.l0 k a2 (bt293.2.length : Int) 0 bt279.1 bt279.2 bt285.1 bt285.2 bt293.1 bt293.2)))) = some r := by rw [if_pos rfl] at H; exact H
  clear H
  have H := H1
  clear H1
  replace H := Option.bind_eq_some_iff.mp H
  obtain ⟨⟨t279, t282⟩, A60, H⟩ := H
  replace H : ((maquettelaw07_Shape_Config.f k a1_0 l1_1 l1_2 l1_3 l1_4 l1_5).bind fun bt285 => ((maquettelaw07_Shape_Config.f k a0_0 l0_1 l0_2 l0_3 l0_4 l0_5).bind fun bt293 => (maquettelaw07_TextSame.l0 k a2 (bt293.2.length : Int) 0 t279 t282 bt285.1 bt285.2 bt293.1 bt293.2))) = some r := H
  have A6 := Aside0.mk A60
  clear A60
  replace H := Option.bind_eq_some_iff.mp H
  obtain ⟨⟨t285, t288⟩, A70, H⟩ := H
  replace H : ((maquettelaw07_Shape_Config.f k a0_0 l0_1 l0_2 l0_3 l0_4 l0_5).bind fun bt293 => (maquettelaw07_TextSame.l0 k a2 (bt293.2.length : Int) 0 t279 t282 t285 t288 bt293.1 bt293.2)) = some r := H
  have A7 := Aside0.mk A70
  clear A70
  replace H := Option.bind_eq_some_iff.mp H
  obtain ⟨⟨t293, t296⟩, A80, H⟩ := H
  replace H : (maquettelaw07_TextSame.l0 k a2 (t296.length : Int) 0 t279 t282 t285 t288 t293 t296) = some r := H
  have A8 := Aside0.mk A80
  clear A80
  have H' := Aside0.mk H
  clear H
  go_enter Tryd.func7, Tryd.ntmps7
  try go_wp2_with (first | ((with_reducible refine gate_dst (N := 3) rfl ?_); refine bx 3 (cs := #[.int .u8 a0_0, .slice A0_1 l0_1.length c0_1, .slice A0_2 l0_2.length c0_2, .slice A0_3 l0_3.length c0_3, .slice A0_4 l0_4.length c0_4, .slice A0_5 l0_5.length c0_5]) (t := 25) (h := ?_); intro gb276 hg w9 hbox hb; have BK276 := Aside0.mk hbox; have GW276 : Aside0 (w.heap.size ≤ gb276) := bge hg; have GE276 : Aside0 (w.heap.size ≤ gb276) := bge hg; replace HB := bst hb; clear hb hbox hg) | ((with_reducible refine gate_dst (N := 4) rfl ?_); refine bx 4 (cs := #[.int .u8 a1_0, .slice A1_1 l1_1.length c1_1, .slice A1_2 l1_2.length c1_2, .slice A1_3 l1_3.length c1_3, .slice A1_4 l1_4.length c1_4, .slice A1_5 l1_5.length c1_5]) (t := 25) (h := ?_); intro gb277 hg w10 hbox hb; have BK277 := Aside0.mk hbox; have GW277 : Aside0 (w.heap.size ≤ gb277) := bge hg; have GE277 : Aside0 (w.heap.size ≤ gb277) := bge hg; have NB276_277 := bne BK276 hg; have NB277_276 := bnf BK276 hg; replace BK276 := bkb BK276 hb; replace HB := bst hb; clear hb hbox hg) | ((with_reducible refine gate_dst (N := 11) rfl ?_); refine gl (some 11) Tryd.func8 #[] ?_; (with_reducible refine (maquettelaw07_awake.calls k  true _ A4.out (Go.Proofs.YtjcopneljfcfoaaDoor.Inv.ivb hInv)).mono ?_); rintro e w11 ⟨rfl, hb⟩; refine ⟨_, rfl, ?_⟩; replace BK276 := bkb BK276 hb; replace BK277 := bkb BK277 hb; replace HB := bst hb; (try clear hb); (try clear hb2); (try clear hk); (try clear hi)))
  replace BK276 := Aside0.mk (blk_drew BK276.out)
  replace BK277 := Aside0.mk (blk_drew BK277.out)
  replace HB := Aside0.mk (below_drew1 HB.out)
  refine start_ (n := 8) (S := fun w' => CS6 w' gb276 (.int .u8 a0_0) (.slice A0_1 l0_1.length c0_1) (.slice A0_2 l0_2.length c0_2) (.slice A0_3 l0_3.length c0_3) (.slice A0_4 l0_4.length c0_4) (.slice A0_5 l0_5.length c0_5) (CE6 w' gb277 (.int .u8 a1_0) (.slice A1_1 l1_1.length c1_1) (.slice A1_2 l1_2.length c1_2) (.slice A1_3 l1_3.length c1_3) (.slice A1_4 l1_4.length c1_4) (.slice A1_5 l1_5.length c1_5))) (ds := []) #[false, false, false, false, false, false, false, false] (by kernel_rfl) rfl rfl (hs6 BK276 (he6 BK277)) (fun hHeld => ?_); refine with_tabW maquettelaw07_TextSame.tab3 maquettelaw07_TextSame.bits3 (fun HT_ HW_ => ?_)
  generalize w11.drew = w12 at BK276 BK277 HB hHeld ⊢
  refine tk HT_ HW_ 0 (some 13) (mk 8 1) hHeld ?_
  refine tk HT_ HW_ 2 (some 15) (mk 8 5) hHeld ?_
  refine join_ (σ := Value × Value × Value × Value × Nat × Nat) 2 #[true, true, true, true, true, true, false, false] (fun s_ => [(14, .agg #[s_.1, s_.2.1]), (16, .agg #[s_.2.2.1, s_.2.2.2.1]), (7, .pointer (some ⟨s_.2.2.2.2.1, 0, none⟩)), (8, .pointer (some ⟨s_.2.2.2.2.2, 0, none⟩))]) (fun s_ w' => (CS6 w' gb276 (.int .u8 a0_0) (.slice A0_1 l0_1.length c0_1) (.slice A0_2 l0_2.length c0_2) (.slice A0_3 l0_3.length c0_3) (.slice A0_4 l0_4.length c0_4) (.slice A0_5 l0_5.length c0_5) (CE6 w' gb277 (.int .u8 a1_0) (.slice A1_1 l1_1.length c1_1) (.slice A1_2 l1_2.length c1_2) (.slice A1_3 l1_3.length c1_3) (.slice A1_4 l1_4.length c1_4) (.slice A1_5 l1_5.length c1_5))) ∧ (Kd.S k36 36 w' w.heap.size (fun k_ => some k_ ≠ (s_.2.2.1 : Value).ownBlock) s_.1 t279) ∧ (Kd.S k46 46 w' w.heap.size (fun k_ => some k_ ≠ (s_.2.2.2.1 : Value).ownBlock) s_.2.1 t282) ∧ (Kd.S k36 36 w' w.heap.size (fun k_ => some k_ ≠ (s_.1 : Value).ownBlock) s_.2.2.1 t285) ∧ (Kd.S k46 46 w' w.heap.size (fun k_ => some k_ ≠ (s_.2.1 : Value).ownBlock) s_.2.2.2.1 t288) ∧ (w'.heap[gb276]? = some (.cells #[.int .u8 a0_0, .slice A0_1 l0_1.length c0_1, .slice A0_2 l0_2.length c0_2, .slice A0_3 l0_3.length c0_3, .slice A0_4 l0_4.length c0_4, .slice A0_5 l0_5.length c0_5] 25 (0, 0))) ∧ (w'.heap[gb277]? = some (.cells #[.int .u8 a1_0, .slice A1_1 l1_1.length c1_1, .slice A1_2 l1_2.length c1_2, .slice A1_3 l1_3.length c1_3, .slice A1_4 l1_4.length c1_4, .slice A1_5 l1_5.length c1_5] 25 (0, 0))) ∧ (w'.heap[s_.2.2.2.2.1]? = some (.cells #[.slice none 0 0, .slice none 0 0] 30 (0, 0))) ∧ (w'.heap[s_.2.2.2.2.2]? = some (.cells #[.slice none 0 0, .slice none 0 0] 30 (0, 0))) ∧ (w.heap.size ≤ s_.2.2.2.2.1) ∧ (w.heap.size ≤ s_.2.2.2.2.1) ∧ (gb276 ≠ s_.2.2.2.2.1) ∧ (s_.2.2.2.2.1 ≠ gb276) ∧ (gb277 ≠ s_.2.2.2.2.1) ∧ (s_.2.2.2.2.1 ≠ gb277) ∧ (s_.2.2.2.2.2 ≠ s_.2.2.2.2.1) ∧ (s_.2.2.2.2.1 ≠ s_.2.2.2.2.2) ∧ (w.heap.size ≤ s_.2.2.2.2.2) ∧ (w.heap.size ≤ s_.2.2.2.2.2) ∧ (gb276 ≠ s_.2.2.2.2.2) ∧ (s_.2.2.2.2.2 ≠ gb276) ∧ (gb277 ≠ s_.2.2.2.2.2) ∧ (s_.2.2.2.2.2 ≠ gb277) ∧ (Below w.heap.size w w')) ?_ ?_
  rotate_left
  ·intro hJ1_3_4_5
   refine join_ (σ := Value × Value × Value × Value × Nat) 3 #[true, true, true, true, true, false, false, false] (fun s_ => [(14, .agg #[s_.1, s_.2.1]), (16, .agg #[s_.2.2.1, s_.2.2.2.1]), (7, .pointer (some ⟨s_.2.2.2.2, 0, none⟩))]) (fun s_ w' => (CS6 w' gb276 (.int .u8 a0_0) (.slice A0_1 l0_1.length c0_1) (.slice A0_2 l0_2.length c0_2) (.slice A0_3 l0_3.length c0_3) (.slice A0_4 l0_4.length c0_4) (.slice A0_5 l0_5.length c0_5) (CE6 w' gb277 (.int .u8 a1_0) (.slice A1_1 l1_1.length c1_1) (.slice A1_2 l1_2.length c1_2) (.slice A1_3 l1_3.length c1_3) (.slice A1_4 l1_4.length c1_4) (.slice A1_5 l1_5.length c1_5))) ∧ (Kd.S k36 36 w' w.heap.size (fun k_ => some k_ ≠ (s_.2.2.1 : Value).ownBlock) s_.1 t279) ∧ (Kd.S k46 46 w' w.heap.size (fun k_ => some k_ ≠ (s_.2.2.2.1 : Value).ownBlock) s_.2.1 t282) ∧ (Kd.S k36 36 w' w.heap.size (fun k_ => some k_ ≠ (s_.1 : Value).ownBlock) s_.2.2.1 t285) ∧ (Kd.S k46 46 w' w.heap.size (fun k_ => some k_ ≠ (s_.2.1 : Value).ownBlock) s_.2.2.2.1 t288) ∧ (w'.heap[gb276]? = some (.cells #[.int .u8 a0_0, .slice A0_1 l0_1.length c0_1, .slice A0_2 l0_2.length c0_2, .slice A0_3 l0_3.length c0_3, .slice A0_4 l0_4.length c0_4, .slice A0_5 l0_5.length c0_5] 25 (0, 0))) ∧ (w'.heap[gb277]? = some (.cells #[.int .u8 a1_0, .slice A1_1 l1_1.length c1_1, .slice A1_2 l1_2.length c1_2, .slice A1_3 l1_3.length c1_3, .slice A1_4 l1_4.length c1_4, .slice A1_5 l1_5.length c1_5] 25 (0, 0))) ∧ (w'.heap[s_.2.2.2.2]? = some (.cells #[.slice none 0 0, .slice none 0 0] 30 (0, 0))) ∧ (w.heap.size ≤ s_.2.2.2.2) ∧ (w.heap.size ≤ s_.2.2.2.2) ∧ (gb276 ≠ s_.2.2.2.2) ∧ (s_.2.2.2.2 ≠ gb276) ∧ (gb277 ≠ s_.2.2.2.2) ∧ (s_.2.2.2.2 ≠ gb277) ∧ (Below w.heap.size w w')) ?_ ?_
   rotate_left
   ·intro hJ1_3_4
    refine join_ (σ := Value × Value × Value × Value × Nat) 3 #[true, true, true, true, false, true, false, false] (fun s_ => [(14, .agg #[s_.1, s_.2.1]), (16, .agg #[s_.2.2.1, s_.2.2.2.1]), (8, .pointer (some ⟨s_.2.2.2.2, 0, none⟩))]) (fun s_ w' => (CS6 w' gb276 (.int .u8 a0_0) (.slice A0_1 l0_1.length c0_1) (.slice A0_2 l0_2.length c0_2) (.slice A0_3 l0_3.length c0_3) (.slice A0_4 l0_4.length c0_4) (.slice A0_5 l0_5.length c0_5) (CE6 w' gb277 (.int .u8 a1_0) (.slice A1_1 l1_1.length c1_1) (.slice A1_2 l1_2.length c1_2) (.slice A1_3 l1_3.length c1_3) (.slice A1_4 l1_4.length c1_4) (.slice A1_5 l1_5.length c1_5))) ∧ (Kd.S k36 36 w' w.heap.size (fun k_ => some k_ ≠ (s_.2.2.1 : Value).ownBlock) s_.1 t279) ∧ (Kd.S k46 46 w' w.heap.size (fun k_ => some k_ ≠ (s_.2.2.2.1 : Value).ownBlock) s_.2.1 t282) ∧ (Kd.S k36 36 w' w.heap.size (fun k_ => some k_ ≠ (s_.1 : Value).ownBlock) s_.2.2.1 t285) ∧ (Kd.S k46 46 w' w.heap.size (fun k_ => some k_ ≠ (s_.2.1 : Value).ownBlock) s_.2.2.2.1 t288) ∧ (w'.heap[gb276]? = some (.cells #[.int .u8 a0_0, .slice A0_1 l0_1.length c0_1, .slice A0_2 l0_2.length c0_2, .slice A0_3 l0_3.length c0_3, .slice A0_4 l0_4.length c0_4, .slice A0_5 l0_5.length c0_5] 25 (0, 0))) ∧ (w'.heap[gb277]? = some (.cells #[.int .u8 a1_0, .slice A1_1 l1_1.length c1_1, .slice A1_2 l1_2.length c1_2, .slice A1_3 l1_3.length c1_3, .slice A1_4 l1_4.length c1_4, .slice A1_5 l1_5.length c1_5] 25 (0, 0))) ∧ (w'.heap[s_.2.2.2.2]? = some (.cells #[.slice none 0 0, .slice none 0 0] 30 (0, 0))) ∧ (w.heap.size ≤ s_.2.2.2.2) ∧ (w.heap.size ≤ s_.2.2.2.2) ∧ (gb276 ≠ s_.2.2.2.2) ∧ (s_.2.2.2.2 ≠ gb276) ∧ (gb277 ≠ s_.2.2.2.2) ∧ (s_.2.2.2.2 ≠ gb277) ∧ (Below w.heap.size w w')) ?_ ?_
    rotate_left
    ·intro hJ1_3_5
     refine join_ (σ := Value × Value × Nat × Nat) 3 #[true, true, true, false, true, true, false, false] (fun s_ => [(14, .agg #[s_.1, s_.2.1]), (7, .pointer (some ⟨s_.2.2.1, 0, none⟩)), (8, .pointer (some ⟨s_.2.2.2, 0, none⟩))]) (fun s_ w' => (CS6 w' gb276 (.int .u8 a0_0) (.slice A0_1 l0_1.length c0_1) (.slice A0_2 l0_2.length c0_2) (.slice A0_3 l0_3.length c0_3) (.slice A0_4 l0_4.length c0_4) (.slice A0_5 l0_5.length c0_5) (CE6 w' gb277 (.int .u8 a1_0) (.slice A1_1 l1_1.length c1_1) (.slice A1_2 l1_2.length c1_2) (.slice A1_3 l1_3.length c1_3) (.slice A1_4 l1_4.length c1_4) (.slice A1_5 l1_5.length c1_5))) ∧ (Kd.S k36 36 w' w.heap.size (fun _ => True) s_.1 t279) ∧ (Kd.S k46 46 w' w.heap.size (fun _ => True) s_.2.1 t282) ∧ (w'.heap[gb276]? = some (.cells #[.int .u8 a0_0, .slice A0_1 l0_1.length c0_1, .slice A0_2 l0_2.length c0_2, .slice A0_3 l0_3.length c0_3, .slice A0_4 l0_4.length c0_4, .slice A0_5 l0_5.length c0_5] 25 (0, 0))) ∧ (w'.heap[gb277]? = some (.cells #[.int .u8 a1_0, .slice A1_1 l1_1.length c1_1, .slice A1_2 l1_2.length c1_2, .slice A1_3 l1_3.length c1_3, .slice A1_4 l1_4.length c1_4, .slice A1_5 l1_5.length c1_5] 25 (0, 0))) ∧ (w'.heap[s_.2.2.1]? = some (.cells #[.slice none 0 0, .slice none 0 0] 30 (0, 0))) ∧ (w'.heap[s_.2.2.2]? = some (.cells #[.slice none 0 0, .slice none 0 0] 30 (0, 0))) ∧ (w.heap.size ≤ s_.2.2.1) ∧ (w.heap.size ≤ s_.2.2.1) ∧ (gb276 ≠ s_.2.2.1) ∧ (s_.2.2.1 ≠ gb276) ∧ (gb277 ≠ s_.2.2.1) ∧ (s_.2.2.1 ≠ gb277) ∧ (s_.2.2.2 ≠ s_.2.2.1) ∧ (s_.2.2.1 ≠ s_.2.2.2) ∧ (w.heap.size ≤ s_.2.2.2) ∧ (w.heap.size ≤ s_.2.2.2) ∧ (gb276 ≠ s_.2.2.2) ∧ (s_.2.2.2 ≠ gb276) ∧ (gb277 ≠ s_.2.2.2) ∧ (s_.2.2.2 ≠ gb277) ∧ (Below w.heap.size w w')) ?_ ?_
     rotate_left
     ·intro hJ1_4_5
      refine join_ (σ := Value × Value × Value × Value) 4 #[true, true, true, true, false, false, false, false] (fun s_ => [(14, .agg #[s_.1, s_.2.1]), (16, .agg #[s_.2.2.1, s_.2.2.2])]) (fun s_ w' => (CS6 w' gb276 (.int .u8 a0_0) (.slice A0_1 l0_1.length c0_1) (.slice A0_2 l0_2.length c0_2) (.slice A0_3 l0_3.length c0_3) (.slice A0_4 l0_4.length c0_4) (.slice A0_5 l0_5.length c0_5) (CE6 w' gb277 (.int .u8 a1_0) (.slice A1_1 l1_1.length c1_1) (.slice A1_2 l1_2.length c1_2) (.slice A1_3 l1_3.length c1_3) (.slice A1_4 l1_4.length c1_4) (.slice A1_5 l1_5.length c1_5))) ∧ (Kd.S k36 36 w' w.heap.size (fun k_ => some k_ ≠ (s_.2.2.1 : Value).ownBlock) s_.1 t279) ∧ (Kd.S k46 46 w' w.heap.size (fun k_ => some k_ ≠ (s_.2.2.2 : Value).ownBlock) s_.2.1 t282) ∧ (Kd.S k36 36 w' w.heap.size (fun k_ => some k_ ≠ (s_.1 : Value).ownBlock) s_.2.2.1 t285) ∧ (Kd.S k46 46 w' w.heap.size (fun k_ => some k_ ≠ (s_.2.1 : Value).ownBlock) s_.2.2.2 t288) ∧ (w'.heap[gb276]? = some (.cells #[.int .u8 a0_0, .slice A0_1 l0_1.length c0_1, .slice A0_2 l0_2.length c0_2, .slice A0_3 l0_3.length c0_3, .slice A0_4 l0_4.length c0_4, .slice A0_5 l0_5.length c0_5] 25 (0, 0))) ∧ (w'.heap[gb277]? = some (.cells #[.int .u8 a1_0, .slice A1_1 l1_1.length c1_1, .slice A1_2 l1_2.length c1_2, .slice A1_3 l1_3.length c1_3, .slice A1_4 l1_4.length c1_4, .slice A1_5 l1_5.length c1_5] 25 (0, 0))) ∧ (Below w.heap.size w w')) ?_ ?_
      rotate_left
      ·intro hJ1_3
       refine join_ (σ := Value × Value × Nat) 4 #[true, true, true, false, true, false, false, false] (fun s_ => [(14, .agg #[s_.1, s_.2.1]), (7, .pointer (some ⟨s_.2.2, 0, none⟩))]) (fun s_ w' => (CS6 w' gb276 (.int .u8 a0_0) (.slice A0_1 l0_1.length c0_1) (.slice A0_2 l0_2.length c0_2) (.slice A0_3 l0_3.length c0_3) (.slice A0_4 l0_4.length c0_4) (.slice A0_5 l0_5.length c0_5) (CE6 w' gb277 (.int .u8 a1_0) (.slice A1_1 l1_1.length c1_1) (.slice A1_2 l1_2.length c1_2) (.slice A1_3 l1_3.length c1_3) (.slice A1_4 l1_4.length c1_4) (.slice A1_5 l1_5.length c1_5))) ∧ (Kd.S k36 36 w' w.heap.size (fun _ => True) s_.1 t279) ∧ (Kd.S k46 46 w' w.heap.size (fun _ => True) s_.2.1 t282) ∧ (w'.heap[gb276]? = some (.cells #[.int .u8 a0_0, .slice A0_1 l0_1.length c0_1, .slice A0_2 l0_2.length c0_2, .slice A0_3 l0_3.length c0_3, .slice A0_4 l0_4.length c0_4, .slice A0_5 l0_5.length c0_5] 25 (0, 0))) ∧ (w'.heap[gb277]? = some (.cells #[.int .u8 a1_0, .slice A1_1 l1_1.length c1_1, .slice A1_2 l1_2.length c1_2, .slice A1_3 l1_3.length c1_3, .slice A1_4 l1_4.length c1_4, .slice A1_5 l1_5.length c1_5] 25 (0, 0))) ∧ (w'.heap[s_.2.2]? = some (.cells #[.slice none 0 0, .slice none 0 0] 30 (0, 0))) ∧ (w.heap.size ≤ s_.2.2) ∧ (w.heap.size ≤ s_.2.2) ∧ (gb276 ≠ s_.2.2) ∧ (s_.2.2 ≠ gb276) ∧ (gb277 ≠ s_.2.2) ∧ (s_.2.2 ≠ gb277) ∧ (Below w.heap.size w w')) ?_ ?_
       rotate_left
       ·intro hJ1_4
        refine join_ (σ := Value × Value × Nat) 4 #[true, true, true, false, false, true, false, false] (fun s_ => [(14, .agg #[s_.1, s_.2.1]), (8, .pointer (some ⟨s_.2.2, 0, none⟩))]) (fun s_ w' => (CS6 w' gb276 (.int .u8 a0_0) (.slice A0_1 l0_1.length c0_1) (.slice A0_2 l0_2.length c0_2) (.slice A0_3 l0_3.length c0_3) (.slice A0_4 l0_4.length c0_4) (.slice A0_5 l0_5.length c0_5) (CE6 w' gb277 (.int .u8 a1_0) (.slice A1_1 l1_1.length c1_1) (.slice A1_2 l1_2.length c1_2) (.slice A1_3 l1_3.length c1_3) (.slice A1_4 l1_4.length c1_4) (.slice A1_5 l1_5.length c1_5))) ∧ (Kd.S k36 36 w' w.heap.size (fun _ => True) s_.1 t279) ∧ (Kd.S k46 46 w' w.heap.size (fun _ => True) s_.2.1 t282) ∧ (w'.heap[gb276]? = some (.cells #[.int .u8 a0_0, .slice A0_1 l0_1.length c0_1, .slice A0_2 l0_2.length c0_2, .slice A0_3 l0_3.length c0_3, .slice A0_4 l0_4.length c0_4, .slice A0_5 l0_5.length c0_5] 25 (0, 0))) ∧ (w'.heap[gb277]? = some (.cells #[.int .u8 a1_0, .slice A1_1 l1_1.length c1_1, .slice A1_2 l1_2.length c1_2, .slice A1_3 l1_3.length c1_3, .slice A1_4 l1_4.length c1_4, .slice A1_5 l1_5.length c1_5] 25 (0, 0))) ∧ (w'.heap[s_.2.2]? = some (.cells #[.slice none 0 0, .slice none 0 0] 30 (0, 0))) ∧ (w.heap.size ≤ s_.2.2) ∧ (w.heap.size ≤ s_.2.2) ∧ (gb276 ≠ s_.2.2) ∧ (s_.2.2 ≠ gb276) ∧ (gb277 ≠ s_.2.2) ∧ (s_.2.2 ≠ gb277) ∧ (Below w.heap.size w w')) ?_ ?_
        rotate_left
        ·intro hJ1_5
         refine join_ (σ := Nat × Nat) 4 #[true, false, true, false, true, true, false, false] (fun s_ => [(7, .pointer (some ⟨s_.1, 0, none⟩)), (8, .pointer (some ⟨s_.2, 0, none⟩))]) (fun s_ w' => (CS6 w' gb276 (.int .u8 a0_0) (.slice A0_1 l0_1.length c0_1) (.slice A0_2 l0_2.length c0_2) (.slice A0_3 l0_3.length c0_3) (.slice A0_4 l0_4.length c0_4) (.slice A0_5 l0_5.length c0_5) (CE6 w' gb277 (.int .u8 a1_0) (.slice A1_1 l1_1.length c1_1) (.slice A1_2 l1_2.length c1_2) (.slice A1_3 l1_3.length c1_3) (.slice A1_4 l1_4.length c1_4) (.slice A1_5 l1_5.length c1_5))) ∧ (w'.heap[gb276]? = some (.cells #[.int .u8 a0_0, .slice A0_1 l0_1.length c0_1, .slice A0_2 l0_2.length c0_2, .slice A0_3 l0_3.length c0_3, .slice A0_4 l0_4.length c0_4, .slice A0_5 l0_5.length c0_5] 25 (0, 0))) ∧ (w'.heap[gb277]? = some (.cells #[.int .u8 a1_0, .slice A1_1 l1_1.length c1_1, .slice A1_2 l1_2.length c1_2, .slice A1_3 l1_3.length c1_3, .slice A1_4 l1_4.length c1_4, .slice A1_5 l1_5.length c1_5] 25 (0, 0))) ∧ (w'.heap[s_.1]? = some (.cells #[.slice none 0 0, .slice none 0 0] 30 (0, 0))) ∧ (w'.heap[s_.2]? = some (.cells #[.slice none 0 0, .slice none 0 0] 30 (0, 0))) ∧ (w.heap.size ≤ s_.1) ∧ (w.heap.size ≤ s_.1) ∧ (gb276 ≠ s_.1) ∧ (s_.1 ≠ gb276) ∧ (gb277 ≠ s_.1) ∧ (s_.1 ≠ gb277) ∧ (s_.2 ≠ s_.1) ∧ (s_.1 ≠ s_.2) ∧ (w.heap.size ≤ s_.2) ∧ (w.heap.size ≤ s_.2) ∧ (gb276 ≠ s_.2) ∧ (s_.2 ≠ gb276) ∧ (gb277 ≠ s_.2) ∧ (s_.2 ≠ gb277) ∧ (Below w.heap.size w w')) ?_ ?_
         rotate_left
         ·intro hJ4_5
          refine join_ (σ := Value × Value) 5 #[true, true, true, false, false, false, false, false] (fun s_ => [(14, .agg #[s_.1, s_.2])]) (fun s_ w' => (CS6 w' gb276 (.int .u8 a0_0) (.slice A0_1 l0_1.length c0_1) (.slice A0_2 l0_2.length c0_2) (.slice A0_3 l0_3.length c0_3) (.slice A0_4 l0_4.length c0_4) (.slice A0_5 l0_5.length c0_5) (CE6 w' gb277 (.int .u8 a1_0) (.slice A1_1 l1_1.length c1_1) (.slice A1_2 l1_2.length c1_2) (.slice A1_3 l1_3.length c1_3) (.slice A1_4 l1_4.length c1_4) (.slice A1_5 l1_5.length c1_5))) ∧ (Kd.S k36 36 w' w.heap.size (fun _ => True) s_.1 t279) ∧ (Kd.S k46 46 w' w.heap.size (fun _ => True) s_.2 t282) ∧ (w'.heap[gb276]? = some (.cells #[.int .u8 a0_0, .slice A0_1 l0_1.length c0_1, .slice A0_2 l0_2.length c0_2, .slice A0_3 l0_3.length c0_3, .slice A0_4 l0_4.length c0_4, .slice A0_5 l0_5.length c0_5] 25 (0, 0))) ∧ (w'.heap[gb277]? = some (.cells #[.int .u8 a1_0, .slice A1_1 l1_1.length c1_1, .slice A1_2 l1_2.length c1_2, .slice A1_3 l1_3.length c1_3, .slice A1_4 l1_4.length c1_4, .slice A1_5 l1_5.length c1_5] 25 (0, 0))) ∧ (Below w.heap.size w w')) ?_ ?_
          rotate_left
          ·intro hJ1
           refine join_ (σ := Nat) 5 #[true, false, true, false, true, false, false, false] (fun s_ => [(7, .pointer (some ⟨s_, 0, none⟩))]) (fun s_ w' => (CS6 w' gb276 (.int .u8 a0_0) (.slice A0_1 l0_1.length c0_1) (.slice A0_2 l0_2.length c0_2) (.slice A0_3 l0_3.length c0_3) (.slice A0_4 l0_4.length c0_4) (.slice A0_5 l0_5.length c0_5) (CE6 w' gb277 (.int .u8 a1_0) (.slice A1_1 l1_1.length c1_1) (.slice A1_2 l1_2.length c1_2) (.slice A1_3 l1_3.length c1_3) (.slice A1_4 l1_4.length c1_4) (.slice A1_5 l1_5.length c1_5))) ∧ (w'.heap[gb276]? = some (.cells #[.int .u8 a0_0, .slice A0_1 l0_1.length c0_1, .slice A0_2 l0_2.length c0_2, .slice A0_3 l0_3.length c0_3, .slice A0_4 l0_4.length c0_4, .slice A0_5 l0_5.length c0_5] 25 (0, 0))) ∧ (w'.heap[gb277]? = some (.cells #[.int .u8 a1_0, .slice A1_1 l1_1.length c1_1, .slice A1_2 l1_2.length c1_2, .slice A1_3 l1_3.length c1_3, .slice A1_4 l1_4.length c1_4, .slice A1_5 l1_5.length c1_5] 25 (0, 0))) ∧ (w'.heap[s_]? = some (.cells #[.slice none 0 0, .slice none 0 0] 30 (0, 0))) ∧ (w.heap.size ≤ s_) ∧ (w.heap.size ≤ s_) ∧ (gb276 ≠ s_) ∧ (s_ ≠ gb276) ∧ (gb277 ≠ s_) ∧ (s_ ≠ gb277) ∧ (Below w.heap.size w w')) ?_ ?_
           rotate_left
           ·intro hJ4
            refine join_ (σ := Nat) 5 #[true, false, true, false, false, true, false, false] (fun s_ => [(8, .pointer (some ⟨s_, 0, none⟩))]) (fun s_ w' => (CS6 w' gb276 (.int .u8 a0_0) (.slice A0_1 l0_1.length c0_1) (.slice A0_2 l0_2.length c0_2) (.slice A0_3 l0_3.length c0_3) (.slice A0_4 l0_4.length c0_4) (.slice A0_5 l0_5.length c0_5) (CE6 w' gb277 (.int .u8 a1_0) (.slice A1_1 l1_1.length c1_1) (.slice A1_2 l1_2.length c1_2) (.slice A1_3 l1_3.length c1_3) (.slice A1_4 l1_4.length c1_4) (.slice A1_5 l1_5.length c1_5))) ∧ (w'.heap[gb276]? = some (.cells #[.int .u8 a0_0, .slice A0_1 l0_1.length c0_1, .slice A0_2 l0_2.length c0_2, .slice A0_3 l0_3.length c0_3, .slice A0_4 l0_4.length c0_4, .slice A0_5 l0_5.length c0_5] 25 (0, 0))) ∧ (w'.heap[gb277]? = some (.cells #[.int .u8 a1_0, .slice A1_1 l1_1.length c1_1, .slice A1_2 l1_2.length c1_2, .slice A1_3 l1_3.length c1_3, .slice A1_4 l1_4.length c1_4, .slice A1_5 l1_5.length c1_5] 25 (0, 0))) ∧ (w'.heap[s_]? = some (.cells #[.slice none 0 0, .slice none 0 0] 30 (0, 0))) ∧ (w.heap.size ≤ s_) ∧ (w.heap.size ≤ s_) ∧ (gb276 ≠ s_) ∧ (s_ ≠ gb276) ∧ (gb277 ≠ s_) ∧ (s_ ≠ gb277) ∧ (Below w.heap.size w w')) ?_ ?_
            rotate_left
            ·intro hJ5
             refine three_ (i := 1) (j := 4) (k := 5) (Ni := some 14) (Nj := some 7) (Nk := some 8) #[true, true, true, false, false, false, false, false] #[true, false, true, false, true, false, false, false] #[true, false, true, false, false, true, false, false] rfl rfl rfl rfl rfl rfl (three_of HT_.out (by kernel_rfl)) (by decide) (by decide) (by decide) (fun K hK => ?_) (fun K hK => ?_) (fun K hK => ?_)
             ·skip
              refine go1 Tryd.func9 #[.agg #[.int .u8 a0_0, .slice A0_1 l0_1.length c0_1, .slice A0_2 l0_2.length c0_2, .slice A0_3 l0_3.length c0_3, .slice A0_4 l0_4.length c0_4, .slice A0_5 l0_5.length c0_5]] ?_
              with_reducible refine (maquettelaw07_Shape_Config.calls k a0_0 _ _ l0_1 _ _ l0_2 _ _ l0_3 _ _ l0_4 _ _ l0_5 t279 t282 _ ?side1 ?side2 ?side3 ?side4 ?side5 ?side6 ?side7 ?side8 ?side9 ?side10 A6.out).mono ?_
              (case side1 => exact kcb HR0_1)
              (case side2 => exact HC0_1.out)
              (case side3 => exact kcb HR0_2)
              (case side4 => exact HC0_2.out)
              (case side5 => exact kcb HR0_3)
              (case side6 => exact HC0_3.out)
              (case side7 => exact kcb HR0_4)
              (case side8 => exact HC0_4.out)
              (case side9 => exact kcb HR0_5)
              (case side10 => exact HC0_5.out)
              rintro e w13 ⟨v280, v283, rfl, ho0, ho1, hb⟩
              refine ⟨_, rfl, ?_⟩
              have HO281 := Aside0.mk (Kd.S_lower ho0 (below_size bel))
              have HO284 := Aside0.mk (Kd.S_lower ho1 (below_size bel))
              replace BK276 := bkb BK276 hb
              replace BK277 := bkb BK277 hb
              replace HB := bst hb
              (try clear hb)
              (try clear hb2)
              (try clear hk)
              (try clear hi)
              (try clear ho0)
              (try clear ho1)
              refine hK.out _ _ (hs6 BK276 (he6 BK277)) (fun hHeld => ?_)
              clear hK K
              refine nm (some 14) ?_
              exact nj (hJ1 (v280, v283) _ ⟨hHeld, (kS HO281), (kS HO284), (bkq BK276), (bkq BK277), bel⟩)
             ·skip
              refine box_step ?hg (N := 7) ?hd (cs := #[.slice none 0 0, .slice none 0 0]) (t := 30) ?hr ?_; (case hd => rfl); (case hg => rfl); (case hr => first | (go_simp; done) | (go_simp; rfl))
              intro gb291 hg w13 hbox hb
              have BK291 := Aside0.mk hbox
              have GW291 : Aside0 (w.heap.size ≤ gb291) := bge hg
              have GE291 : Aside0 (w.heap.size ≤ gb291) := bge hg
              have NB276_291 := bne BK276 hg
              have NB291_276 := bnf BK276 hg
              have NB277_291 := bne BK277 hg
              have NB291_277 := bnf BK277 hg
              replace BK276 := bkb BK276 hb
              replace BK277 := bkb BK277 hb
              replace HB := bst hb
              clear hb hbox hg
              refine hK.out _ _ (hs6 BK276 (he6 BK277)) (fun hHeld => ?_)
              clear hK K
              refine nm (some 7) ?_
              exact nj (hJ4 (gb291) _ ⟨hHeld, (bkq BK276), (bkq BK277), (bkq BK291), GW291.out, GE291.out, NB276_291.out, NB291_276.out, NB277_291.out, NB291_277.out, bel⟩)
             ·skip
              refine box_step ?hg (N := 8) ?hd (cs := #[.slice none 0 0, .slice none 0 0]) (t := 30) ?hr ?_; (case hd => rfl); (case hg => rfl); (case hr => first | (go_simp; done) | (go_simp; rfl))
              intro gb292 hg w13 hbox hb
              have BK292 := Aside0.mk hbox
              have GW292 : Aside0 (w.heap.size ≤ gb292) := bge hg
              have GE292 : Aside0 (w.heap.size ≤ gb292) := bge hg
              have NB276_292 := bne BK276 hg
              have NB292_276 := bnf BK276 hg
              have NB277_292 := bne BK277 hg
              have NB292_277 := bnf BK277 hg
              replace BK276 := bkb BK276 hb
              replace BK277 := bkb BK277 hb
              replace HB := bst hb
              clear hb hbox hg
              refine hK.out _ _ (hs6 BK276 (he6 BK277)) (fun hHeld => ?_)
              clear hK K
              refine nm (some 8) ?_
              exact nj (hJ5 (gb292) _ ⟨hHeld, (bkq BK276), (bkq BK277), (bkq BK292), GW292.out, GE292.out, NB276_292.out, NB292_276.out, NB277_292.out, NB292_277.out, bel⟩)
            ·skip
             rintro gb292 w14 ⟨hS_, h0_, h1_, h2_, h3_, h4_, h5_, h6_, h7_, h8_, h9_⟩
             have BK292 : Aside0 (w14.heap[gb292]? = some (.cells #[.slice none 0 0, .slice none 0 0] 30 (0, 0))) := ⟨h2_⟩
             have GW292 : Aside0 (w.heap.size ≤ gb292) := ⟨h3_⟩
             have GE292 : Aside0 (w.heap.size ≤ gb292) := ⟨h4_⟩
             have NB276_292 : Aside0 (gb276 ≠ gb292) := ⟨h5_⟩
             have NB292_276 : Aside0 (gb292 ≠ gb276) := ⟨h6_⟩
             have NB277_292 : Aside0 (gb277 ≠ gb292) := ⟨h7_⟩
             have NB292_277 : Aside0 (gb292 ≠ gb277) := ⟨h8_⟩
             replace BK276 : Aside0 (w14.heap[gb276]? = some (.cells #[.int .u8 a0_0, .slice A0_1 l0_1.length c0_1, .slice A0_2 l0_2.length c0_2, .slice A0_3 l0_3.length c0_3, .slice A0_4 l0_4.length c0_4, .slice A0_5 l0_5.length c0_5] 25 (0, 0))) := ⟨h0_⟩
             replace BK277 : Aside0 (w14.heap[gb277]? = some (.cells #[.int .u8 a1_0, .slice A1_1 l1_1.length c1_1, .slice A1_2 l1_2.length c1_2, .slice A1_3 l1_3.length c1_3, .slice A1_4 l1_4.length c1_4, .slice A1_5 l1_5.length c1_5] 25 (0, 0))) := ⟨h1_⟩
             replace HB : Aside0 (Below w.heap.size w w14) := ⟨h9_⟩
             clear h0_ h1_ h2_ h3_ h4_ h5_ h6_ h7_ h8_ h9_
             have hHeld : CS6 w14 gb276 (.int .u8 a0_0) (.slice A0_1 l0_1.length c0_1) (.slice A0_2 l0_2.length c0_2) (.slice A0_3 l0_3.length c0_3) (.slice A0_4 l0_4.length c0_4) (.slice A0_5 l0_5.length c0_5) (CE6 w14 gb277 (.int .u8 a1_0) (.slice A1_1 l1_1.length c1_1) (.slice A1_2 l1_2.length c1_2) (.slice A1_3 l1_3.length c1_3) (.slice A1_4 l1_4.length c1_4) (.slice A1_5 l1_5.length c1_5)) := hS_
             refine norm_ (a' := ?_) ?_ ?_
             rotate_left
             ·simp only [putAll, Act.put, List.setIfInBounds_toArray, List.set_cons_zero, List.set_cons_succ]
              rfl
             refine two_ (i := 1) (j := 4) (Ni := some 14) (Nj := some 7) #[true, true, true, false, false, true, false, false] #[true, false, true, false, true, true, false, false] rfl rfl rfl rfl (two_of HT_.out (by kernel_rfl)) (by decide) (by decide) (fun K hK => ?_) (fun K hK => ?_)
             ·skip
              refine go1 Tryd.func9 #[.agg #[.int .u8 a0_0, .slice A0_1 l0_1.length c0_1, .slice A0_2 l0_2.length c0_2, .slice A0_3 l0_3.length c0_3, .slice A0_4 l0_4.length c0_4, .slice A0_5 l0_5.length c0_5]] ?_
              with_reducible refine (maquettelaw07_Shape_Config.calls k a0_0 _ _ l0_1 _ _ l0_2 _ _ l0_3 _ _ l0_4 _ _ l0_5 t279 t282 _ ?side1 ?side2 ?side3 ?side4 ?side5 ?side6 ?side7 ?side8 ?side9 ?side10 A6.out).mono ?_
              (case side1 => exact kcb HR0_1)
              (case side2 => exact HC0_1.out)
              (case side3 => exact kcb HR0_2)
              (case side4 => exact HC0_2.out)
              (case side5 => exact kcb HR0_3)
              (case side6 => exact HC0_3.out)
              (case side7 => exact kcb HR0_4)
              (case side8 => exact HC0_4.out)
              (case side9 => exact kcb HR0_5)
              (case side10 => exact HC0_5.out)
              rintro e w15 ⟨v280, v283, rfl, ho0, ho1, hb⟩
              refine ⟨_, rfl, ?_⟩
              have HO281 := Aside0.mk (Kd.S_lower ho0 (below_size bel))
              have HO284 := Aside0.mk (Kd.S_lower ho1 (below_size bel))
              replace BK276 := bkb BK276 hb
              replace BK277 := bkb BK277 hb
              replace BK292 := bkb BK292 hb
              replace HB := bst hb
              (try clear hb)
              (try clear hb2)
              (try clear hk)
              (try clear hi)
              (try clear ho0)
              (try clear ho1)
              refine hK.out _ _ (hs6 BK276 (he6 BK277)) (fun hHeld => ?_)
              clear hK K
              refine nm (some 14) ?_
              exact nj (hJ1_5 (v280, v283, gb292) _ ⟨hHeld, (kS HO281), (kS HO284), (bkq BK276), (bkq BK277), (bkq BK292), GW292.out, GE292.out, NB276_292.out, NB292_276.out, NB277_292.out, NB292_277.out, bel⟩)
             ·skip
              refine box_step ?hg (N := 7) ?hd (cs := #[.slice none 0 0, .slice none 0 0]) (t := 30) ?hr ?_; (case hd => rfl); (case hg => rfl); (case hr => first | (go_simp; done) | (go_simp; rfl))
              intro gb291 hg w15 hbox hb
              have BK291 := Aside0.mk hbox
              have GW291 : Aside0 (w.heap.size ≤ gb291) := bge hg
              have GE291 : Aside0 (w.heap.size ≤ gb291) := bge hg
              have NB276_291 := bne BK276 hg
              have NB291_276 := bnf BK276 hg
              have NB277_291 := bne BK277 hg
              have NB291_277 := bnf BK277 hg
              have NB292_291 := bne BK292 hg
              have NB291_292 := bnf BK292 hg
              replace BK276 := bkb BK276 hb
              replace BK277 := bkb BK277 hb
              replace BK292 := bkb BK292 hb
              replace HB := bst hb
              clear hb hbox hg
              refine hK.out _ _ (hs6 BK276 (he6 BK277)) (fun hHeld => ?_)
              clear hK K
              refine nm (some 7) ?_
              exact nj (hJ4_5 (gb291, gb292) _ ⟨hHeld, (bkq BK276), (bkq BK277), (bkq BK291), (bkq BK292), GW291.out, GE291.out, NB276_291.out, NB291_276.out, NB277_291.out, NB291_277.out, NB292_291.out, NB291_292.out, GW292.out, GE292.out, NB276_292.out, NB292_276.out, NB277_292.out, NB292_277.out, bel⟩)
           ·skip
            rintro gb291 w14 ⟨hS_, h0_, h1_, h2_, h3_, h4_, h5_, h6_, h7_, h8_, h9_⟩
            have BK291 : Aside0 (w14.heap[gb291]? = some (.cells #[.slice none 0 0, .slice none 0 0] 30 (0, 0))) := ⟨h2_⟩
            have GW291 : Aside0 (w.heap.size ≤ gb291) := ⟨h3_⟩
            have GE291 : Aside0 (w.heap.size ≤ gb291) := ⟨h4_⟩
            have NB276_291 : Aside0 (gb276 ≠ gb291) := ⟨h5_⟩
            have NB291_276 : Aside0 (gb291 ≠ gb276) := ⟨h6_⟩
            have NB277_291 : Aside0 (gb277 ≠ gb291) := ⟨h7_⟩
            have NB291_277 : Aside0 (gb291 ≠ gb277) := ⟨h8_⟩
            replace BK276 : Aside0 (w14.heap[gb276]? = some (.cells #[.int .u8 a0_0, .slice A0_1 l0_1.length c0_1, .slice A0_2 l0_2.length c0_2, .slice A0_3 l0_3.length c0_3, .slice A0_4 l0_4.length c0_4, .slice A0_5 l0_5.length c0_5] 25 (0, 0))) := ⟨h0_⟩
            replace BK277 : Aside0 (w14.heap[gb277]? = some (.cells #[.int .u8 a1_0, .slice A1_1 l1_1.length c1_1, .slice A1_2 l1_2.length c1_2, .slice A1_3 l1_3.length c1_3, .slice A1_4 l1_4.length c1_4, .slice A1_5 l1_5.length c1_5] 25 (0, 0))) := ⟨h1_⟩
            replace HB : Aside0 (Below w.heap.size w w14) := ⟨h9_⟩
            clear h0_ h1_ h2_ h3_ h4_ h5_ h6_ h7_ h8_ h9_
            have hHeld : CS6 w14 gb276 (.int .u8 a0_0) (.slice A0_1 l0_1.length c0_1) (.slice A0_2 l0_2.length c0_2) (.slice A0_3 l0_3.length c0_3) (.slice A0_4 l0_4.length c0_4) (.slice A0_5 l0_5.length c0_5) (CE6 w14 gb277 (.int .u8 a1_0) (.slice A1_1 l1_1.length c1_1) (.slice A1_2 l1_2.length c1_2) (.slice A1_3 l1_3.length c1_3) (.slice A1_4 l1_4.length c1_4) (.slice A1_5 l1_5.length c1_5)) := hS_
            refine norm_ (a' := ?_) ?_ ?_
            rotate_left
            ·simp only [putAll, Act.put, List.setIfInBounds_toArray, List.set_cons_zero, List.set_cons_succ]
             rfl
            refine two_ (i := 1) (j := 5) (Ni := some 14) (Nj := some 8) #[true, true, true, false, true, false, false, false] #[true, false, true, false, true, true, false, false] rfl rfl rfl rfl (two_of HT_.out (by kernel_rfl)) (by decide) (by decide) (fun K hK => ?_) (fun K hK => ?_)
            ·skip
             refine go1 Tryd.func9 #[.agg #[.int .u8 a0_0, .slice A0_1 l0_1.length c0_1, .slice A0_2 l0_2.length c0_2, .slice A0_3 l0_3.length c0_3, .slice A0_4 l0_4.length c0_4, .slice A0_5 l0_5.length c0_5]] ?_
             with_reducible refine (maquettelaw07_Shape_Config.calls k a0_0 _ _ l0_1 _ _ l0_2 _ _ l0_3 _ _ l0_4 _ _ l0_5 t279 t282 _ ?side1 ?side2 ?side3 ?side4 ?side5 ?side6 ?side7 ?side8 ?side9 ?side10 A6.out).mono ?_
             (case side1 => exact kcb HR0_1)
             (case side2 => exact HC0_1.out)
             (case side3 => exact kcb HR0_2)
             (case side4 => exact HC0_2.out)
             (case side5 => exact kcb HR0_3)
             (case side6 => exact HC0_3.out)
             (case side7 => exact kcb HR0_4)
             (case side8 => exact HC0_4.out)
             (case side9 => exact kcb HR0_5)
             (case side10 => exact HC0_5.out)
             rintro e w15 ⟨v280, v283, rfl, ho0, ho1, hb⟩
             refine ⟨_, rfl, ?_⟩
             have HO281 := Aside0.mk (Kd.S_lower ho0 (below_size bel))
             have HO284 := Aside0.mk (Kd.S_lower ho1 (below_size bel))
             replace BK276 := bkb BK276 hb
             replace BK277 := bkb BK277 hb
             replace BK291 := bkb BK291 hb
             replace HB := bst hb
             (try clear hb)
             (try clear hb2)
             (try clear hk)
             (try clear hi)
             (try clear ho0)
             (try clear ho1)
             refine hK.out _ _ (hs6 BK276 (he6 BK277)) (fun hHeld => ?_)
             clear hK K
             refine nm (some 14) ?_
             exact nj (hJ1_4 (v280, v283, gb291) _ ⟨hHeld, (kS HO281), (kS HO284), (bkq BK276), (bkq BK277), (bkq BK291), GW291.out, GE291.out, NB276_291.out, NB291_276.out, NB277_291.out, NB291_277.out, bel⟩)
            ·skip
             refine box_step ?hg (N := 8) ?hd (cs := #[.slice none 0 0, .slice none 0 0]) (t := 30) ?hr ?_; (case hd => rfl); (case hg => rfl); (case hr => first | (go_simp; done) | (go_simp; rfl))
             intro gb292 hg w15 hbox hb
             have BK292 := Aside0.mk hbox
             have GW292 : Aside0 (w.heap.size ≤ gb292) := bge hg
             have GE292 : Aside0 (w.heap.size ≤ gb292) := bge hg
             have NB276_292 := bne BK276 hg
             have NB292_276 := bnf BK276 hg
             have NB277_292 := bne BK277 hg
             have NB292_277 := bnf BK277 hg
             have NB291_292 := bne BK291 hg
             have NB292_291 := bnf BK291 hg
             replace BK276 := bkb BK276 hb
             replace BK277 := bkb BK277 hb
             replace BK291 := bkb BK291 hb
             replace HB := bst hb
             clear hb hbox hg
             refine hK.out _ _ (hs6 BK276 (he6 BK277)) (fun hHeld => ?_)
             clear hK K
             refine nm (some 8) ?_
             exact nj (hJ4_5 (gb291, gb292) _ ⟨hHeld, (bkq BK276), (bkq BK277), (bkq BK291), (bkq BK292), GW291.out, GE291.out, NB276_291.out, NB291_276.out, NB277_291.out, NB291_277.out, NB292_291.out, NB291_292.out, GW292.out, GE292.out, NB276_292.out, NB292_276.out, NB277_292.out, NB292_277.out, bel⟩)
          ·skip
           rintro ⟨v280, v283⟩ w14 ⟨hS_, h0_, h1_, h2_, h3_, h4_⟩
           have HO281 : Aside0 (Kd.S k36 36 w14 w.heap.size (fun _ => True) v280 t279) := ⟨h0_⟩
           have HO284 : Aside0 (Kd.S k46 46 w14 w.heap.size (fun _ => True) v283 t282) := ⟨h1_⟩
           replace BK276 : Aside0 (w14.heap[gb276]? = some (.cells #[.int .u8 a0_0, .slice A0_1 l0_1.length c0_1, .slice A0_2 l0_2.length c0_2, .slice A0_3 l0_3.length c0_3, .slice A0_4 l0_4.length c0_4, .slice A0_5 l0_5.length c0_5] 25 (0, 0))) := ⟨h2_⟩
           replace BK277 : Aside0 (w14.heap[gb277]? = some (.cells #[.int .u8 a1_0, .slice A1_1 l1_1.length c1_1, .slice A1_2 l1_2.length c1_2, .slice A1_3 l1_3.length c1_3, .slice A1_4 l1_4.length c1_4, .slice A1_5 l1_5.length c1_5] 25 (0, 0))) := ⟨h3_⟩
           replace HB : Aside0 (Below w.heap.size w w14) := ⟨h4_⟩
           clear h0_ h1_ h2_ h3_ h4_
           have hHeld : CS6 w14 gb276 (.int .u8 a0_0) (.slice A0_1 l0_1.length c0_1) (.slice A0_2 l0_2.length c0_2) (.slice A0_3 l0_3.length c0_3) (.slice A0_4 l0_4.length c0_4) (.slice A0_5 l0_5.length c0_5) (CE6 w14 gb277 (.int .u8 a1_0) (.slice A1_1 l1_1.length c1_1) (.slice A1_2 l1_2.length c1_2) (.slice A1_3 l1_3.length c1_3) (.slice A1_4 l1_4.length c1_4) (.slice A1_5 l1_5.length c1_5)) := hS_
           refine norm_ (a' := ?_) ?_ ?_
           rotate_left
           ·simp only [putAll, Act.put, List.setIfInBounds_toArray, List.set_cons_zero, List.set_cons_succ]
            rfl
           refine three_ (i := 3) (j := 4) (k := 5) (Ni := some 16) (Nj := some 7) (Nk := some 8) #[true, true, true, true, false, false, false, false] #[true, true, true, false, true, false, false, false] #[true, true, true, false, false, true, false, false] rfl rfl rfl rfl rfl rfl (three_of HT_.out (by kernel_rfl)) (by decide) (by decide) (by decide) (fun K hK => ?_) (fun K hK => ?_) (fun K hK => ?_)
           ·skip
            refine go1 Tryd.func9 #[.agg #[.int .u8 a1_0, .slice A1_1 l1_1.length c1_1, .slice A1_2 l1_2.length c1_2, .slice A1_3 l1_3.length c1_3, .slice A1_4 l1_4.length c1_4, .slice A1_5 l1_5.length c1_5]] ?_
            with_reducible refine (maquettelaw07_Shape_Config.calls k a1_0 _ _ l1_1 _ _ l1_2 _ _ l1_3 _ _ l1_4 _ _ l1_5 t285 t288 _ ?side1 ?side2 ?side3 ?side4 ?side5 ?side6 ?side7 ?side8 ?side9 ?side10 A7.out).mono ?_
            (case side1 => exact kcb HR1_1)
            (case side2 => exact HC1_1.out)
            (case side3 => exact kcb HR1_2)
            (case side4 => exact HC1_2.out)
            (case side5 => exact kcb HR1_3)
            (case side6 => exact HC1_3.out)
            (case side7 => exact kcb HR1_4)
            (case side8 => exact HC1_4.out)
            (case side9 => exact kcb HR1_5)
            (case side10 => exact HC1_5.out)
            rintro e w15 ⟨v286, v289, rfl, ho0, ho1, hb⟩
            refine ⟨_, rfl, ?_⟩
            have HO287 := Aside0.mk (Kd.S_lower (Kd.S_new' ho0 (Kd.S_lt (kS HO281))) (below_size bel))
            have HO290 := Aside0.mk (Kd.S_lower (Kd.S_new' ho1 (Kd.S_lt (kS HO284))) (below_size bel))
            replace HO281 := Aside0.mk (Kd.S_elder' (kS HO281) (Kd.S_base ho0) hb)
            replace HO284 := Aside0.mk (Kd.S_elder' (kS HO284) (Kd.S_base ho1) hb)
            replace BK276 := bkb BK276 hb
            replace BK277 := bkb BK277 hb
            replace HB := bst hb
            (try clear hb)
            (try clear hb2)
            (try clear hk)
            (try clear hi)
            (try clear ho0)
            (try clear ho1)
            refine hK.out _ _ (hs6 BK276 (he6 BK277)) (fun hHeld => ?_)
            clear hK K
            refine nm (some 16) ?_
            exact nj (hJ1_3 (v280, v283, v286, v289) _ ⟨hHeld, (by (with_reducible repeat (first | apply Kd.S_alloc | apply Kd.S_drewN | apply Kd.S_drew)); exact Kd.S_mono HO281.out (fun _ hk => hk.2)), (by (with_reducible repeat (first | apply Kd.S_alloc | apply Kd.S_drewN | apply Kd.S_drew)); exact Kd.S_mono HO284.out (fun _ hk => hk.2)), (by (with_reducible repeat (first | apply Kd.S_alloc | apply Kd.S_drewN | apply Kd.S_drew)); exact Kd.S_mono HO287.out (fun _ hk => hk.2)), (by (with_reducible repeat (first | apply Kd.S_alloc | apply Kd.S_drewN | apply Kd.S_drew)); exact Kd.S_mono HO290.out (fun _ hk => hk.2)), (bkq BK276), (bkq BK277), bel⟩)
           ·skip
            refine box_step ?hg (N := 7) ?hd (cs := #[.slice none 0 0, .slice none 0 0]) (t := 30) ?hr ?_; (case hd => rfl); (case hg => rfl); (case hr => first | (go_simp; done) | (go_simp; rfl))
            intro gb291 hg w15 hbox hb
            have BK291 := Aside0.mk hbox
            have GW291 : Aside0 (w.heap.size ≤ gb291) := bge hg
            have GE291 : Aside0 (w.heap.size ≤ gb291) := bge hg
            have NB276_291 := bne BK276 hg
            have NB291_276 := bnf BK276 hg
            have NB277_291 := bne BK277 hg
            have NB291_277 := bnf BK277 hg
            replace HO281 := Aside0.mk (Kd.S_below (kS HO281) hb)
            replace HO284 := Aside0.mk (Kd.S_below (kS HO284) hb)
            replace BK276 := bkb BK276 hb
            replace BK277 := bkb BK277 hb
            replace HB := bst hb
            clear hb hbox hg
            refine hK.out _ _ (hs6 BK276 (he6 BK277)) (fun hHeld => ?_)
            clear hK K
            refine nm (some 7) ?_
            exact nj (hJ1_4 (v280, v283, gb291) _ ⟨hHeld, (kS HO281), (kS HO284), (bkq BK276), (bkq BK277), (bkq BK291), GW291.out, GE291.out, NB276_291.out, NB291_276.out, NB277_291.out, NB291_277.out, bel⟩)
           ·skip
            refine box_step ?hg (N := 8) ?hd (cs := #[.slice none 0 0, .slice none 0 0]) (t := 30) ?hr ?_; (case hd => rfl); (case hg => rfl); (case hr => first | (go_simp; done) | (go_simp; rfl))
            intro gb292 hg w15 hbox hb
            have BK292 := Aside0.mk hbox
            have GW292 : Aside0 (w.heap.size ≤ gb292) := bge hg
            have GE292 : Aside0 (w.heap.size ≤ gb292) := bge hg
            have NB276_292 := bne BK276 hg
            have NB292_276 := bnf BK276 hg
            have NB277_292 := bne BK277 hg
            have NB292_277 := bnf BK277 hg
            replace HO281 := Aside0.mk (Kd.S_below (kS HO281) hb)
            replace HO284 := Aside0.mk (Kd.S_below (kS HO284) hb)
            replace BK276 := bkb BK276 hb
            replace BK277 := bkb BK277 hb
            replace HB := bst hb
            clear hb hbox hg
            refine hK.out _ _ (hs6 BK276 (he6 BK277)) (fun hHeld => ?_)
            clear hK K
            refine nm (some 8) ?_
            exact nj (hJ1_5 (v280, v283, gb292) _ ⟨hHeld, (kS HO281), (kS HO284), (bkq BK276), (bkq BK277), (bkq BK292), GW292.out, GE292.out, NB276_292.out, NB292_276.out, NB277_292.out, NB292_277.out, bel⟩)
         ·skip
          rintro ⟨gb291, gb292⟩ w15 ⟨hS_, h0_, h1_, h2_, h3_, h4_, h5_, h6_, h7_, h8_, h9_, h10_, h11_, h12_, h13_, h14_, h15_, h16_, h17_, h18_⟩
          have BK291 : Aside0 (w15.heap[gb291]? = some (.cells #[.slice none 0 0, .slice none 0 0] 30 (0, 0))) := ⟨h2_⟩
          have BK292 : Aside0 (w15.heap[gb292]? = some (.cells #[.slice none 0 0, .slice none 0 0] 30 (0, 0))) := ⟨h3_⟩
          have GW291 : Aside0 (w.heap.size ≤ gb291) := ⟨h4_⟩
          have GE291 : Aside0 (w.heap.size ≤ gb291) := ⟨h5_⟩
          have NB276_291 : Aside0 (gb276 ≠ gb291) := ⟨h6_⟩
          have NB291_276 : Aside0 (gb291 ≠ gb276) := ⟨h7_⟩
          have NB277_291 : Aside0 (gb277 ≠ gb291) := ⟨h8_⟩
          have NB291_277 : Aside0 (gb291 ≠ gb277) := ⟨h9_⟩
          have NB292_291 : Aside0 (gb292 ≠ gb291) := ⟨h10_⟩
          have NB291_292 : Aside0 (gb291 ≠ gb292) := ⟨h11_⟩
          have GW292 : Aside0 (w.heap.size ≤ gb292) := ⟨h12_⟩
          have GE292 : Aside0 (w.heap.size ≤ gb292) := ⟨h13_⟩
          have NB276_292 : Aside0 (gb276 ≠ gb292) := ⟨h14_⟩
          have NB292_276 : Aside0 (gb292 ≠ gb276) := ⟨h15_⟩
          have NB277_292 : Aside0 (gb277 ≠ gb292) := ⟨h16_⟩
          have NB292_277 : Aside0 (gb292 ≠ gb277) := ⟨h17_⟩
          replace BK276 : Aside0 (w15.heap[gb276]? = some (.cells #[.int .u8 a0_0, .slice A0_1 l0_1.length c0_1, .slice A0_2 l0_2.length c0_2, .slice A0_3 l0_3.length c0_3, .slice A0_4 l0_4.length c0_4, .slice A0_5 l0_5.length c0_5] 25 (0, 0))) := ⟨h0_⟩
          replace BK277 : Aside0 (w15.heap[gb277]? = some (.cells #[.int .u8 a1_0, .slice A1_1 l1_1.length c1_1, .slice A1_2 l1_2.length c1_2, .slice A1_3 l1_3.length c1_3, .slice A1_4 l1_4.length c1_4, .slice A1_5 l1_5.length c1_5] 25 (0, 0))) := ⟨h1_⟩
          replace HB : Aside0 (Below w.heap.size w w15) := ⟨h18_⟩
          clear h0_ h1_ h2_ h3_ h4_ h5_ h6_ h7_ h8_ h9_ h10_ h11_ h12_ h13_ h14_ h15_ h16_ h17_ h18_
          have hHeld : CS6 w15 gb276 (.int .u8 a0_0) (.slice A0_1 l0_1.length c0_1) (.slice A0_2 l0_2.length c0_2) (.slice A0_3 l0_3.length c0_3) (.slice A0_4 l0_4.length c0_4) (.slice A0_5 l0_5.length c0_5) (CE6 w15 gb277 (.int .u8 a1_0) (.slice A1_1 l1_1.length c1_1) (.slice A1_2 l1_2.length c1_2) (.slice A1_3 l1_3.length c1_3) (.slice A1_4 l1_4.length c1_4) (.slice A1_5 l1_5.length c1_5)) := hS_
          refine norm_ (a' := ?_) ?_ ?_
          rotate_left
          ·simp only [putAll, Act.put, List.setIfInBounds_toArray, List.set_cons_zero, List.set_cons_succ]
           rfl
          refine on HT_ 1 (some 14) (mk 8 55) fun K hK => ?_
          refine go1 Tryd.func9 #[.agg #[.int .u8 a0_0, .slice A0_1 l0_1.length c0_1, .slice A0_2 l0_2.length c0_2, .slice A0_3 l0_3.length c0_3, .slice A0_4 l0_4.length c0_4, .slice A0_5 l0_5.length c0_5]] ?_
          with_reducible refine (maquettelaw07_Shape_Config.calls k a0_0 _ _ l0_1 _ _ l0_2 _ _ l0_3 _ _ l0_4 _ _ l0_5 t279 t282 _ ?side1 ?side2 ?side3 ?side4 ?side5 ?side6 ?side7 ?side8 ?side9 ?side10 A6.out).mono ?_
          (case side1 => exact kcb HR0_1)
          (case side2 => exact HC0_1.out)
          (case side3 => exact kcb HR0_2)
          (case side4 => exact HC0_2.out)
          (case side5 => exact kcb HR0_3)
          (case side6 => exact HC0_3.out)
          (case side7 => exact kcb HR0_4)
          (case side8 => exact HC0_4.out)
          (case side9 => exact kcb HR0_5)
          (case side10 => exact HC0_5.out)
          rintro e w16 ⟨v280, v283, rfl, ho0, ho1, hb⟩
          refine ⟨_, rfl, ?_⟩
          have HO281 := Aside0.mk (Kd.S_lower ho0 (below_size bel))
          have HO284 := Aside0.mk (Kd.S_lower ho1 (below_size bel))
          replace BK276 := bkb BK276 hb
          replace BK277 := bkb BK277 hb
          replace BK291 := bkb BK291 hb
          replace BK292 := bkb BK292 hb
          replace HB := bst hb
          (try clear hb)
          (try clear hb2)
          (try clear hk)
          (try clear hi)
          (try clear ho0)
          (try clear ho1)
          refine hK.out _ _ (hs6 BK276 (he6 BK277)) (fun hHeld => ?_)
          clear hK K
          refine nm (some 14) ?_
          exact nj (hJ1_4_5 (v280, v283, gb291, gb292) _ ⟨hHeld, (kS HO281), (kS HO284), (bkq BK276), (bkq BK277), (bkq BK291), (bkq BK292), GW291.out, GE291.out, NB276_291.out, NB291_276.out, NB277_291.out, NB291_277.out, NB292_291.out, NB291_292.out, GW292.out, GE292.out, NB276_292.out, NB292_276.out, NB277_292.out, NB292_277.out, bel⟩)
        ·skip
         rintro ⟨v280, v283, gb292⟩ w15 ⟨hS_, h0_, h1_, h2_, h3_, h4_, h5_, h6_, h7_, h8_, h9_, h10_, h11_⟩
         have HO281 : Aside0 (Kd.S k36 36 w15 w.heap.size (fun _ => True) v280 t279) := ⟨h0_⟩
         have HO284 : Aside0 (Kd.S k46 46 w15 w.heap.size (fun _ => True) v283 t282) := ⟨h1_⟩
         have BK292 : Aside0 (w15.heap[gb292]? = some (.cells #[.slice none 0 0, .slice none 0 0] 30 (0, 0))) := ⟨h4_⟩
         have GW292 : Aside0 (w.heap.size ≤ gb292) := ⟨h5_⟩
         have GE292 : Aside0 (w.heap.size ≤ gb292) := ⟨h6_⟩
         have NB276_292 : Aside0 (gb276 ≠ gb292) := ⟨h7_⟩
         have NB292_276 : Aside0 (gb292 ≠ gb276) := ⟨h8_⟩
         have NB277_292 : Aside0 (gb277 ≠ gb292) := ⟨h9_⟩
         have NB292_277 : Aside0 (gb292 ≠ gb277) := ⟨h10_⟩
         replace BK276 : Aside0 (w15.heap[gb276]? = some (.cells #[.int .u8 a0_0, .slice A0_1 l0_1.length c0_1, .slice A0_2 l0_2.length c0_2, .slice A0_3 l0_3.length c0_3, .slice A0_4 l0_4.length c0_4, .slice A0_5 l0_5.length c0_5] 25 (0, 0))) := ⟨h2_⟩
         replace BK277 : Aside0 (w15.heap[gb277]? = some (.cells #[.int .u8 a1_0, .slice A1_1 l1_1.length c1_1, .slice A1_2 l1_2.length c1_2, .slice A1_3 l1_3.length c1_3, .slice A1_4 l1_4.length c1_4, .slice A1_5 l1_5.length c1_5] 25 (0, 0))) := ⟨h3_⟩
         replace HB : Aside0 (Below w.heap.size w w15) := ⟨h11_⟩
         clear h0_ h1_ h2_ h3_ h4_ h5_ h6_ h7_ h8_ h9_ h10_ h11_
         have hHeld : CS6 w15 gb276 (.int .u8 a0_0) (.slice A0_1 l0_1.length c0_1) (.slice A0_2 l0_2.length c0_2) (.slice A0_3 l0_3.length c0_3) (.slice A0_4 l0_4.length c0_4) (.slice A0_5 l0_5.length c0_5) (CE6 w15 gb277 (.int .u8 a1_0) (.slice A1_1 l1_1.length c1_1) (.slice A1_2 l1_2.length c1_2) (.slice A1_3 l1_3.length c1_3) (.slice A1_4 l1_4.length c1_4) (.slice A1_5 l1_5.length c1_5)) := hS_
         refine norm_ (a' := ?_) ?_ ?_
         rotate_left
         ·simp only [putAll, Act.put, List.setIfInBounds_toArray, List.set_cons_zero, List.set_cons_succ]
          rfl
         refine two_ (i := 3) (j := 4) (Ni := some 16) (Nj := some 7) #[true, true, true, true, false, true, false, false] #[true, true, true, false, true, true, false, false] rfl rfl rfl rfl (two_of HT_.out (by kernel_rfl)) (by decide) (by decide) (fun K hK => ?_) (fun K hK => ?_)
         ·skip
          refine go1 Tryd.func9 #[.agg #[.int .u8 a1_0, .slice A1_1 l1_1.length c1_1, .slice A1_2 l1_2.length c1_2, .slice A1_3 l1_3.length c1_3, .slice A1_4 l1_4.length c1_4, .slice A1_5 l1_5.length c1_5]] ?_
          with_reducible refine (maquettelaw07_Shape_Config.calls k a1_0 _ _ l1_1 _ _ l1_2 _ _ l1_3 _ _ l1_4 _ _ l1_5 t285 t288 _ ?side1 ?side2 ?side3 ?side4 ?side5 ?side6 ?side7 ?side8 ?side9 ?side10 A7.out).mono ?_
          (case side1 => exact kcb HR1_1)
          (case side2 => exact HC1_1.out)
          (case side3 => exact kcb HR1_2)
          (case side4 => exact HC1_2.out)
          (case side5 => exact kcb HR1_3)
          (case side6 => exact HC1_3.out)
          (case side7 => exact kcb HR1_4)
          (case side8 => exact HC1_4.out)
          (case side9 => exact kcb HR1_5)
          (case side10 => exact HC1_5.out)
          rintro e w16 ⟨v286, v289, rfl, ho0, ho1, hb⟩
          refine ⟨_, rfl, ?_⟩
          have HO287 := Aside0.mk (Kd.S_lower (Kd.S_new' ho0 (Kd.S_lt (kS HO281))) (below_size bel))
          have HO290 := Aside0.mk (Kd.S_lower (Kd.S_new' ho1 (Kd.S_lt (kS HO284))) (below_size bel))
          replace HO281 := Aside0.mk (Kd.S_elder' (kS HO281) (Kd.S_base ho0) hb)
          replace HO284 := Aside0.mk (Kd.S_elder' (kS HO284) (Kd.S_base ho1) hb)
          replace BK276 := bkb BK276 hb
          replace BK277 := bkb BK277 hb
          replace BK292 := bkb BK292 hb
          replace HB := bst hb
          (try clear hb)
          (try clear hb2)
          (try clear hk)
          (try clear hi)
          (try clear ho0)
          (try clear ho1)
          refine hK.out _ _ (hs6 BK276 (he6 BK277)) (fun hHeld => ?_)
          clear hK K
          refine nm (some 16) ?_
          exact nj (hJ1_3_5 (v280, v283, v286, v289, gb292) _ ⟨hHeld, (by (with_reducible repeat (first | apply Kd.S_alloc | apply Kd.S_drewN | apply Kd.S_drew)); exact Kd.S_mono HO281.out (fun _ hk => hk.2)), (by (with_reducible repeat (first | apply Kd.S_alloc | apply Kd.S_drewN | apply Kd.S_drew)); exact Kd.S_mono HO284.out (fun _ hk => hk.2)), (by (with_reducible repeat (first | apply Kd.S_alloc | apply Kd.S_drewN | apply Kd.S_drew)); exact Kd.S_mono HO287.out (fun _ hk => hk.2)), (by (with_reducible repeat (first | apply Kd.S_alloc | apply Kd.S_drewN | apply Kd.S_drew)); exact Kd.S_mono HO290.out (fun _ hk => hk.2)), (bkq BK276), (bkq BK277), (bkq BK292), GW292.out, GE292.out, NB276_292.out, NB292_276.out, NB277_292.out, NB292_277.out, bel⟩)
         ·skip
          refine box_step ?hg (N := 7) ?hd (cs := #[.slice none 0 0, .slice none 0 0]) (t := 30) ?hr ?_; (case hd => rfl); (case hg => rfl); (case hr => first | (go_simp; done) | (go_simp; rfl))
          intro gb291 hg w16 hbox hb
          have BK291 := Aside0.mk hbox
          have GW291 : Aside0 (w.heap.size ≤ gb291) := bge hg
          have GE291 : Aside0 (w.heap.size ≤ gb291) := bge hg
          have NB276_291 := bne BK276 hg
          have NB291_276 := bnf BK276 hg
          have NB277_291 := bne BK277 hg
          have NB291_277 := bnf BK277 hg
          have NB292_291 := bne BK292 hg
          have NB291_292 := bnf BK292 hg
          replace HO281 := Aside0.mk (Kd.S_below (kS HO281) hb)
          replace HO284 := Aside0.mk (Kd.S_below (kS HO284) hb)
          replace BK276 := bkb BK276 hb
          replace BK277 := bkb BK277 hb
          replace BK292 := bkb BK292 hb
          replace HB := bst hb
          clear hb hbox hg
          refine hK.out _ _ (hs6 BK276 (he6 BK277)) (fun hHeld => ?_)
          clear hK K
          refine nm (some 7) ?_
          exact nj (hJ1_4_5 (v280, v283, gb291, gb292) _ ⟨hHeld, (kS HO281), (kS HO284), (bkq BK276), (bkq BK277), (bkq BK291), (bkq BK292), GW291.out, GE291.out, NB276_291.out, NB291_276.out, NB277_291.out, NB291_277.out, NB292_291.out, NB291_292.out, GW292.out, GE292.out, NB276_292.out, NB292_276.out, NB277_292.out, NB292_277.out, bel⟩)
       ·skip
        rintro ⟨v280, v283, gb291⟩ w15 ⟨hS_, h0_, h1_, h2_, h3_, h4_, h5_, h6_, h7_, h8_, h9_, h10_, h11_⟩
        have HO281 : Aside0 (Kd.S k36 36 w15 w.heap.size (fun _ => True) v280 t279) := ⟨h0_⟩
        have HO284 : Aside0 (Kd.S k46 46 w15 w.heap.size (fun _ => True) v283 t282) := ⟨h1_⟩
        have BK291 : Aside0 (w15.heap[gb291]? = some (.cells #[.slice none 0 0, .slice none 0 0] 30 (0, 0))) := ⟨h4_⟩
        have GW291 : Aside0 (w.heap.size ≤ gb291) := ⟨h5_⟩
        have GE291 : Aside0 (w.heap.size ≤ gb291) := ⟨h6_⟩
        have NB276_291 : Aside0 (gb276 ≠ gb291) := ⟨h7_⟩
        have NB291_276 : Aside0 (gb291 ≠ gb276) := ⟨h8_⟩
        have NB277_291 : Aside0 (gb277 ≠ gb291) := ⟨h9_⟩
        have NB291_277 : Aside0 (gb291 ≠ gb277) := ⟨h10_⟩
        replace BK276 : Aside0 (w15.heap[gb276]? = some (.cells #[.int .u8 a0_0, .slice A0_1 l0_1.length c0_1, .slice A0_2 l0_2.length c0_2, .slice A0_3 l0_3.length c0_3, .slice A0_4 l0_4.length c0_4, .slice A0_5 l0_5.length c0_5] 25 (0, 0))) := ⟨h2_⟩
        replace BK277 : Aside0 (w15.heap[gb277]? = some (.cells #[.int .u8 a1_0, .slice A1_1 l1_1.length c1_1, .slice A1_2 l1_2.length c1_2, .slice A1_3 l1_3.length c1_3, .slice A1_4 l1_4.length c1_4, .slice A1_5 l1_5.length c1_5] 25 (0, 0))) := ⟨h3_⟩
        replace HB : Aside0 (Below w.heap.size w w15) := ⟨h11_⟩
        clear h0_ h1_ h2_ h3_ h4_ h5_ h6_ h7_ h8_ h9_ h10_ h11_
        have hHeld : CS6 w15 gb276 (.int .u8 a0_0) (.slice A0_1 l0_1.length c0_1) (.slice A0_2 l0_2.length c0_2) (.slice A0_3 l0_3.length c0_3) (.slice A0_4 l0_4.length c0_4) (.slice A0_5 l0_5.length c0_5) (CE6 w15 gb277 (.int .u8 a1_0) (.slice A1_1 l1_1.length c1_1) (.slice A1_2 l1_2.length c1_2) (.slice A1_3 l1_3.length c1_3) (.slice A1_4 l1_4.length c1_4) (.slice A1_5 l1_5.length c1_5)) := hS_
        refine norm_ (a' := ?_) ?_ ?_
        rotate_left
        ·simp only [putAll, Act.put, List.setIfInBounds_toArray, List.set_cons_zero, List.set_cons_succ]
         rfl
        refine two_ (i := 3) (j := 5) (Ni := some 16) (Nj := some 8) #[true, true, true, true, true, false, false, false] #[true, true, true, false, true, true, false, false] rfl rfl rfl rfl (two_of HT_.out (by kernel_rfl)) (by decide) (by decide) (fun K hK => ?_) (fun K hK => ?_)
        ·skip
         refine go1 Tryd.func9 #[.agg #[.int .u8 a1_0, .slice A1_1 l1_1.length c1_1, .slice A1_2 l1_2.length c1_2, .slice A1_3 l1_3.length c1_3, .slice A1_4 l1_4.length c1_4, .slice A1_5 l1_5.length c1_5]] ?_
         with_reducible refine (maquettelaw07_Shape_Config.calls k a1_0 _ _ l1_1 _ _ l1_2 _ _ l1_3 _ _ l1_4 _ _ l1_5 t285 t288 _ ?side1 ?side2 ?side3 ?side4 ?side5 ?side6 ?side7 ?side8 ?side9 ?side10 A7.out).mono ?_
         (case side1 => exact kcb HR1_1)
         (case side2 => exact HC1_1.out)
         (case side3 => exact kcb HR1_2)
         (case side4 => exact HC1_2.out)
         (case side5 => exact kcb HR1_3)
         (case side6 => exact HC1_3.out)
         (case side7 => exact kcb HR1_4)
         (case side8 => exact HC1_4.out)
         (case side9 => exact kcb HR1_5)
         (case side10 => exact HC1_5.out)
         rintro e w16 ⟨v286, v289, rfl, ho0, ho1, hb⟩
         refine ⟨_, rfl, ?_⟩
         have HO287 := Aside0.mk (Kd.S_lower (Kd.S_new' ho0 (Kd.S_lt (kS HO281))) (below_size bel))
         have HO290 := Aside0.mk (Kd.S_lower (Kd.S_new' ho1 (Kd.S_lt (kS HO284))) (below_size bel))
         replace HO281 := Aside0.mk (Kd.S_elder' (kS HO281) (Kd.S_base ho0) hb)
         replace HO284 := Aside0.mk (Kd.S_elder' (kS HO284) (Kd.S_base ho1) hb)
         replace BK276 := bkb BK276 hb
         replace BK277 := bkb BK277 hb
         replace BK291 := bkb BK291 hb
         replace HB := bst hb
         (try clear hb)
         (try clear hb2)
         (try clear hk)
         (try clear hi)
         (try clear ho0)
         (try clear ho1)
         refine hK.out _ _ (hs6 BK276 (he6 BK277)) (fun hHeld => ?_)
         clear hK K
         refine nm (some 16) ?_
         exact nj (hJ1_3_4 (v280, v283, v286, v289, gb291) _ ⟨hHeld, (by (with_reducible repeat (first | apply Kd.S_alloc | apply Kd.S_drewN | apply Kd.S_drew)); exact Kd.S_mono HO281.out (fun _ hk => hk.2)), (by (with_reducible repeat (first | apply Kd.S_alloc | apply Kd.S_drewN | apply Kd.S_drew)); exact Kd.S_mono HO284.out (fun _ hk => hk.2)), (by (with_reducible repeat (first | apply Kd.S_alloc | apply Kd.S_drewN | apply Kd.S_drew)); exact Kd.S_mono HO287.out (fun _ hk => hk.2)), (by (with_reducible repeat (first | apply Kd.S_alloc | apply Kd.S_drewN | apply Kd.S_drew)); exact Kd.S_mono HO290.out (fun _ hk => hk.2)), (bkq BK276), (bkq BK277), (bkq BK291), GW291.out, GE291.out, NB276_291.out, NB291_276.out, NB277_291.out, NB291_277.out, bel⟩)
        ·skip
         refine box_step ?hg (N := 8) ?hd (cs := #[.slice none 0 0, .slice none 0 0]) (t := 30) ?hr ?_; (case hd => rfl); (case hg => rfl); (case hr => first | (go_simp; done) | (go_simp; rfl))
         intro gb292 hg w16 hbox hb
         have BK292 := Aside0.mk hbox
         have GW292 : Aside0 (w.heap.size ≤ gb292) := bge hg
         have GE292 : Aside0 (w.heap.size ≤ gb292) := bge hg
         have NB276_292 := bne BK276 hg
         have NB292_276 := bnf BK276 hg
         have NB277_292 := bne BK277 hg
         have NB292_277 := bnf BK277 hg
         have NB291_292 := bne BK291 hg
         have NB292_291 := bnf BK291 hg
         replace HO281 := Aside0.mk (Kd.S_below (kS HO281) hb)
         replace HO284 := Aside0.mk (Kd.S_below (kS HO284) hb)
         replace BK276 := bkb BK276 hb
         replace BK277 := bkb BK277 hb
         replace BK291 := bkb BK291 hb
         replace HB := bst hb
         clear hb hbox hg
         refine hK.out _ _ (hs6 BK276 (he6 BK277)) (fun hHeld => ?_)
         clear hK K
         refine nm (some 8) ?_
         exact nj (hJ1_4_5 (v280, v283, gb291, gb292) _ ⟨hHeld, (kS HO281), (kS HO284), (bkq BK276), (bkq BK277), (bkq BK291), (bkq BK292), GW291.out, GE291.out, NB276_291.out, NB291_276.out, NB277_291.out, NB291_277.out, NB292_291.out, NB291_292.out, GW292.out, GE292.out, NB276_292.out, NB292_276.out, NB277_292.out, NB292_277.out, bel⟩)
      ·skip
       rintro ⟨v280, v283, v286, v289⟩ w15 ⟨hS_, h0_, h1_, h2_, h3_, h4_, h5_, h6_⟩
       have HO281 : Aside0 (Kd.S k36 36 w15 w.heap.size (fun k_ => some k_ ≠ (v286 : Value).ownBlock) v280 t279) := ⟨h0_⟩
       have HO284 : Aside0 (Kd.S k46 46 w15 w.heap.size (fun k_ => some k_ ≠ (v289 : Value).ownBlock) v283 t282) := ⟨h1_⟩
       have HO287 : Aside0 (Kd.S k36 36 w15 w.heap.size (fun k_ => some k_ ≠ (v280 : Value).ownBlock) v286 t285) := ⟨h2_⟩
       have HO290 : Aside0 (Kd.S k46 46 w15 w.heap.size (fun k_ => some k_ ≠ (v283 : Value).ownBlock) v289 t288) := ⟨h3_⟩
       replace BK276 : Aside0 (w15.heap[gb276]? = some (.cells #[.int .u8 a0_0, .slice A0_1 l0_1.length c0_1, .slice A0_2 l0_2.length c0_2, .slice A0_3 l0_3.length c0_3, .slice A0_4 l0_4.length c0_4, .slice A0_5 l0_5.length c0_5] 25 (0, 0))) := ⟨h4_⟩
       replace BK277 : Aside0 (w15.heap[gb277]? = some (.cells #[.int .u8 a1_0, .slice A1_1 l1_1.length c1_1, .slice A1_2 l1_2.length c1_2, .slice A1_3 l1_3.length c1_3, .slice A1_4 l1_4.length c1_4, .slice A1_5 l1_5.length c1_5] 25 (0, 0))) := ⟨h5_⟩
       replace HB : Aside0 (Below w.heap.size w w15) := ⟨h6_⟩
       clear h0_ h1_ h2_ h3_ h4_ h5_ h6_
       have hHeld : CS6 w15 gb276 (.int .u8 a0_0) (.slice A0_1 l0_1.length c0_1) (.slice A0_2 l0_2.length c0_2) (.slice A0_3 l0_3.length c0_3) (.slice A0_4 l0_4.length c0_4) (.slice A0_5 l0_5.length c0_5) (CE6 w15 gb277 (.int .u8 a1_0) (.slice A1_1 l1_1.length c1_1) (.slice A1_2 l1_2.length c1_2) (.slice A1_3 l1_3.length c1_3) (.slice A1_4 l1_4.length c1_4) (.slice A1_5 l1_5.length c1_5)) := hS_
       refine norm_ (a' := ?_) ?_ ?_
       rotate_left
       ·simp only [putAll, Act.put, List.setIfInBounds_toArray, List.set_cons_zero, List.set_cons_succ]
        rfl
       refine two_ (i := 4) (j := 5) (Ni := some 7) (Nj := some 8) #[true, true, true, true, true, false, false, false] #[true, true, true, true, false, true, false, false] rfl rfl rfl rfl (two_of HT_.out (by kernel_rfl)) (by decide) (by decide) (fun K hK => ?_) (fun K hK => ?_)
       ·skip
        refine box_step ?hg (N := 7) ?hd (cs := #[.slice none 0 0, .slice none 0 0]) (t := 30) ?hr ?_; (case hd => rfl); (case hg => rfl); (case hr => first | (go_simp; done) | (go_simp; rfl))
        intro gb291 hg w16 hbox hb
        have BK291 := Aside0.mk hbox
        have GW291 : Aside0 (w.heap.size ≤ gb291) := bge hg
        have GE291 : Aside0 (w.heap.size ≤ gb291) := bge hg
        have NB276_291 := bne BK276 hg
        have NB291_276 := bnf BK276 hg
        have NB277_291 := bne BK277 hg
        have NB291_277 := bnf BK277 hg
        replace HO281 := Aside0.mk (Kd.S_below (kS HO281) hb)
        replace HO284 := Aside0.mk (Kd.S_below (kS HO284) hb)
        replace HO287 := Aside0.mk (Kd.S_below (kS HO287) hb)
        replace HO290 := Aside0.mk (Kd.S_below (kS HO290) hb)
        replace BK276 := bkb BK276 hb
        replace BK277 := bkb BK277 hb
        replace HB := bst hb
        clear hb hbox hg
        refine hK.out _ _ (hs6 BK276 (he6 BK277)) (fun hHeld => ?_)
        clear hK K
        refine nm (some 7) ?_
        exact nj (hJ1_3_4 (v280, v283, v286, v289, gb291) _ ⟨hHeld, (kS HO281), (kS HO284), (kS HO287), (kS HO290), (bkq BK276), (bkq BK277), (bkq BK291), GW291.out, GE291.out, NB276_291.out, NB291_276.out, NB277_291.out, NB291_277.out, bel⟩)
       ·skip
        refine box_step ?hg (N := 8) ?hd (cs := #[.slice none 0 0, .slice none 0 0]) (t := 30) ?hr ?_; (case hd => rfl); (case hg => rfl); (case hr => first | (go_simp; done) | (go_simp; rfl))
        intro gb292 hg w16 hbox hb
        have BK292 := Aside0.mk hbox
        have GW292 : Aside0 (w.heap.size ≤ gb292) := bge hg
        have GE292 : Aside0 (w.heap.size ≤ gb292) := bge hg
        have NB276_292 := bne BK276 hg
        have NB292_276 := bnf BK276 hg
        have NB277_292 := bne BK277 hg
        have NB292_277 := bnf BK277 hg
        replace HO281 := Aside0.mk (Kd.S_below (kS HO281) hb)
        replace HO284 := Aside0.mk (Kd.S_below (kS HO284) hb)
        replace HO287 := Aside0.mk (Kd.S_below (kS HO287) hb)
        replace HO290 := Aside0.mk (Kd.S_below (kS HO290) hb)
        replace BK276 := bkb BK276 hb
        replace BK277 := bkb BK277 hb
        replace HB := bst hb
        clear hb hbox hg
        refine hK.out _ _ (hs6 BK276 (he6 BK277)) (fun hHeld => ?_)
        clear hK K
        refine nm (some 8) ?_
        exact nj (hJ1_3_5 (v280, v283, v286, v289, gb292) _ ⟨hHeld, (kS HO281), (kS HO284), (kS HO287), (kS HO290), (bkq BK276), (bkq BK277), (bkq BK292), GW292.out, GE292.out, NB276_292.out, NB292_276.out, NB277_292.out, NB292_277.out, bel⟩)
     ·skip
      rintro ⟨v280, v283, gb291, gb292⟩ w16 ⟨hS_, h0_, h1_, h2_, h3_, h4_, h5_, h6_, h7_, h8_, h9_, h10_, h11_, h12_, h13_, h14_, h15_, h16_, h17_, h18_, h19_, h20_⟩
      have HO281 : Aside0 (Kd.S k36 36 w16 w.heap.size (fun _ => True) v280 t279) := ⟨h0_⟩
      have HO284 : Aside0 (Kd.S k46 46 w16 w.heap.size (fun _ => True) v283 t282) := ⟨h1_⟩
      have BK291 : Aside0 (w16.heap[gb291]? = some (.cells #[.slice none 0 0, .slice none 0 0] 30 (0, 0))) := ⟨h4_⟩
      have BK292 : Aside0 (w16.heap[gb292]? = some (.cells #[.slice none 0 0, .slice none 0 0] 30 (0, 0))) := ⟨h5_⟩
      have GW291 : Aside0 (w.heap.size ≤ gb291) := ⟨h6_⟩
      have GE291 : Aside0 (w.heap.size ≤ gb291) := ⟨h7_⟩
      have NB276_291 : Aside0 (gb276 ≠ gb291) := ⟨h8_⟩
      have NB291_276 : Aside0 (gb291 ≠ gb276) := ⟨h9_⟩
      have NB277_291 : Aside0 (gb277 ≠ gb291) := ⟨h10_⟩
      have NB291_277 : Aside0 (gb291 ≠ gb277) := ⟨h11_⟩
      have NB292_291 : Aside0 (gb292 ≠ gb291) := ⟨h12_⟩
      have NB291_292 : Aside0 (gb291 ≠ gb292) := ⟨h13_⟩
      have GW292 : Aside0 (w.heap.size ≤ gb292) := ⟨h14_⟩
      have GE292 : Aside0 (w.heap.size ≤ gb292) := ⟨h15_⟩
      have NB276_292 : Aside0 (gb276 ≠ gb292) := ⟨h16_⟩
      have NB292_276 : Aside0 (gb292 ≠ gb276) := ⟨h17_⟩
      have NB277_292 : Aside0 (gb277 ≠ gb292) := ⟨h18_⟩
      have NB292_277 : Aside0 (gb292 ≠ gb277) := ⟨h19_⟩
      replace BK276 : Aside0 (w16.heap[gb276]? = some (.cells #[.int .u8 a0_0, .slice A0_1 l0_1.length c0_1, .slice A0_2 l0_2.length c0_2, .slice A0_3 l0_3.length c0_3, .slice A0_4 l0_4.length c0_4, .slice A0_5 l0_5.length c0_5] 25 (0, 0))) := ⟨h2_⟩
      replace BK277 : Aside0 (w16.heap[gb277]? = some (.cells #[.int .u8 a1_0, .slice A1_1 l1_1.length c1_1, .slice A1_2 l1_2.length c1_2, .slice A1_3 l1_3.length c1_3, .slice A1_4 l1_4.length c1_4, .slice A1_5 l1_5.length c1_5] 25 (0, 0))) := ⟨h3_⟩
      replace HB : Aside0 (Below w.heap.size w w16) := ⟨h20_⟩
      clear h0_ h1_ h2_ h3_ h4_ h5_ h6_ h7_ h8_ h9_ h10_ h11_ h12_ h13_ h14_ h15_ h16_ h17_ h18_ h19_ h20_
      have hHeld : CS6 w16 gb276 (.int .u8 a0_0) (.slice A0_1 l0_1.length c0_1) (.slice A0_2 l0_2.length c0_2) (.slice A0_3 l0_3.length c0_3) (.slice A0_4 l0_4.length c0_4) (.slice A0_5 l0_5.length c0_5) (CE6 w16 gb277 (.int .u8 a1_0) (.slice A1_1 l1_1.length c1_1) (.slice A1_2 l1_2.length c1_2) (.slice A1_3 l1_3.length c1_3) (.slice A1_4 l1_4.length c1_4) (.slice A1_5 l1_5.length c1_5)) := hS_
      refine norm_ (a' := ?_) ?_ ?_
      rotate_left
      ·simp only [putAll, Act.put, List.setIfInBounds_toArray, List.set_cons_zero, List.set_cons_succ]
       rfl
      refine on HT_ 3 (some 16) (mk 8 63) fun K hK => ?_
      refine go1 Tryd.func9 #[.agg #[.int .u8 a1_0, .slice A1_1 l1_1.length c1_1, .slice A1_2 l1_2.length c1_2, .slice A1_3 l1_3.length c1_3, .slice A1_4 l1_4.length c1_4, .slice A1_5 l1_5.length c1_5]] ?_
      with_reducible refine (maquettelaw07_Shape_Config.calls k a1_0 _ _ l1_1 _ _ l1_2 _ _ l1_3 _ _ l1_4 _ _ l1_5 t285 t288 _ ?side1 ?side2 ?side3 ?side4 ?side5 ?side6 ?side7 ?side8 ?side9 ?side10 A7.out).mono ?_
      (case side1 => exact kcb HR1_1)
      (case side2 => exact HC1_1.out)
      (case side3 => exact kcb HR1_2)
      (case side4 => exact HC1_2.out)
      (case side5 => exact kcb HR1_3)
      (case side6 => exact HC1_3.out)
      (case side7 => exact kcb HR1_4)
      (case side8 => exact HC1_4.out)
      (case side9 => exact kcb HR1_5)
      (case side10 => exact HC1_5.out)
      rintro e w17 ⟨v286, v289, rfl, ho0, ho1, hb⟩
      refine ⟨_, rfl, ?_⟩
      have HO287 := Aside0.mk (Kd.S_lower (Kd.S_new' ho0 (Kd.S_lt (kS HO281))) (below_size bel))
      have HO290 := Aside0.mk (Kd.S_lower (Kd.S_new' ho1 (Kd.S_lt (kS HO284))) (below_size bel))
      replace HO281 := Aside0.mk (Kd.S_elder' (kS HO281) (Kd.S_base ho0) hb)
      replace HO284 := Aside0.mk (Kd.S_elder' (kS HO284) (Kd.S_base ho1) hb)
      replace BK276 := bkb BK276 hb
      replace BK277 := bkb BK277 hb
      replace BK291 := bkb BK291 hb
      replace BK292 := bkb BK292 hb
      replace HB := bst hb
      (try clear hb)
      (try clear hb2)
      (try clear hk)
      (try clear hi)
      (try clear ho0)
      (try clear ho1)
      refine hK.out _ _ (hs6 BK276 (he6 BK277)) (fun hHeld => ?_)
      clear hK K
      refine nm (some 16) ?_
      exact nj (hJ1_3_4_5 (v280, v283, v286, v289, gb291, gb292) _ ⟨hHeld, (by (with_reducible repeat (first | apply Kd.S_alloc | apply Kd.S_drewN | apply Kd.S_drew)); exact Kd.S_mono HO281.out (fun _ hk => hk.2)), (by (with_reducible repeat (first | apply Kd.S_alloc | apply Kd.S_drewN | apply Kd.S_drew)); exact Kd.S_mono HO284.out (fun _ hk => hk.2)), (by (with_reducible repeat (first | apply Kd.S_alloc | apply Kd.S_drewN | apply Kd.S_drew)); exact Kd.S_mono HO287.out (fun _ hk => hk.2)), (by (with_reducible repeat (first | apply Kd.S_alloc | apply Kd.S_drewN | apply Kd.S_drew)); exact Kd.S_mono HO290.out (fun _ hk => hk.2)), (bkq BK276), (bkq BK277), (bkq BK291), (bkq BK292), GW291.out, GE291.out, NB276_291.out, NB291_276.out, NB277_291.out, NB291_277.out, NB292_291.out, NB291_292.out, GW292.out, GE292.out, NB276_292.out, NB292_276.out, NB277_292.out, NB292_277.out, bel⟩)
    ·skip
     rintro ⟨v280, v283, v286, v289, gb292⟩ w16 ⟨hS_, h0_, h1_, h2_, h3_, h4_, h5_, h6_, h7_, h8_, h9_, h10_, h11_, h12_, h13_⟩
     have HO281 : Aside0 (Kd.S k36 36 w16 w.heap.size (fun k_ => some k_ ≠ (v286 : Value).ownBlock) v280 t279) := ⟨h0_⟩
     have HO284 : Aside0 (Kd.S k46 46 w16 w.heap.size (fun k_ => some k_ ≠ (v289 : Value).ownBlock) v283 t282) := ⟨h1_⟩
     have HO287 : Aside0 (Kd.S k36 36 w16 w.heap.size (fun k_ => some k_ ≠ (v280 : Value).ownBlock) v286 t285) := ⟨h2_⟩
     have HO290 : Aside0 (Kd.S k46 46 w16 w.heap.size (fun k_ => some k_ ≠ (v283 : Value).ownBlock) v289 t288) := ⟨h3_⟩
     have BK292 : Aside0 (w16.heap[gb292]? = some (.cells #[.slice none 0 0, .slice none 0 0] 30 (0, 0))) := ⟨h6_⟩
     have GW292 : Aside0 (w.heap.size ≤ gb292) := ⟨h7_⟩
     have GE292 : Aside0 (w.heap.size ≤ gb292) := ⟨h8_⟩
     have NB276_292 : Aside0 (gb276 ≠ gb292) := ⟨h9_⟩
     have NB292_276 : Aside0 (gb292 ≠ gb276) := ⟨h10_⟩
     have NB277_292 : Aside0 (gb277 ≠ gb292) := ⟨h11_⟩
     have NB292_277 : Aside0 (gb292 ≠ gb277) := ⟨h12_⟩
     replace BK276 : Aside0 (w16.heap[gb276]? = some (.cells #[.int .u8 a0_0, .slice A0_1 l0_1.length c0_1, .slice A0_2 l0_2.length c0_2, .slice A0_3 l0_3.length c0_3, .slice A0_4 l0_4.length c0_4, .slice A0_5 l0_5.length c0_5] 25 (0, 0))) := ⟨h4_⟩
     replace BK277 : Aside0 (w16.heap[gb277]? = some (.cells #[.int .u8 a1_0, .slice A1_1 l1_1.length c1_1, .slice A1_2 l1_2.length c1_2, .slice A1_3 l1_3.length c1_3, .slice A1_4 l1_4.length c1_4, .slice A1_5 l1_5.length c1_5] 25 (0, 0))) := ⟨h5_⟩
     replace HB : Aside0 (Below w.heap.size w w16) := ⟨h13_⟩
     clear h0_ h1_ h2_ h3_ h4_ h5_ h6_ h7_ h8_ h9_ h10_ h11_ h12_ h13_
     have hHeld : CS6 w16 gb276 (.int .u8 a0_0) (.slice A0_1 l0_1.length c0_1) (.slice A0_2 l0_2.length c0_2) (.slice A0_3 l0_3.length c0_3) (.slice A0_4 l0_4.length c0_4) (.slice A0_5 l0_5.length c0_5) (CE6 w16 gb277 (.int .u8 a1_0) (.slice A1_1 l1_1.length c1_1) (.slice A1_2 l1_2.length c1_2) (.slice A1_3 l1_3.length c1_3) (.slice A1_4 l1_4.length c1_4) (.slice A1_5 l1_5.length c1_5)) := hS_
     refine norm_ (a' := ?_) ?_ ?_
     rotate_left
     ·simp only [putAll, Act.put, List.setIfInBounds_toArray, List.set_cons_zero, List.set_cons_succ]
      rfl
     refine on HT_ 4 (some 7) (mk 8 63) fun K hK => ?_
     refine box_step ?hg (N := 7) ?hd (cs := #[.slice none 0 0, .slice none 0 0]) (t := 30) ?hr ?_; (case hd => rfl); (case hg => rfl); (case hr => first | (go_simp; done) | (go_simp; rfl))
     intro gb291 hg w17 hbox hb
     have BK291 := Aside0.mk hbox
     have GW291 : Aside0 (w.heap.size ≤ gb291) := bge hg
     have GE291 : Aside0 (w.heap.size ≤ gb291) := bge hg
     have NB276_291 := bne BK276 hg
     have NB291_276 := bnf BK276 hg
     have NB277_291 := bne BK277 hg
     have NB291_277 := bnf BK277 hg
     have NB292_291 := bne BK292 hg
     have NB291_292 := bnf BK292 hg
     replace HO281 := Aside0.mk (Kd.S_below (kS HO281) hb)
     replace HO284 := Aside0.mk (Kd.S_below (kS HO284) hb)
     replace HO287 := Aside0.mk (Kd.S_below (kS HO287) hb)
     replace HO290 := Aside0.mk (Kd.S_below (kS HO290) hb)
     replace BK276 := bkb BK276 hb
     replace BK277 := bkb BK277 hb
     replace BK292 := bkb BK292 hb
     replace HB := bst hb
     clear hb hbox hg
     refine hK.out _ _ (hs6 BK276 (he6 BK277)) (fun hHeld => ?_)
     clear hK K
     refine nm (some 7) ?_
     exact nj (hJ1_3_4_5 (v280, v283, v286, v289, gb291, gb292) _ ⟨hHeld, (kS HO281), (kS HO284), (kS HO287), (kS HO290), (bkq BK276), (bkq BK277), (bkq BK291), (bkq BK292), GW291.out, GE291.out, NB276_291.out, NB291_276.out, NB277_291.out, NB291_277.out, NB292_291.out, NB291_292.out, GW292.out, GE292.out, NB276_292.out, NB292_276.out, NB277_292.out, NB292_277.out, bel⟩)
   ·skip
    rintro ⟨v280, v283, v286, v289, gb291⟩ w16 ⟨hS_, h0_, h1_, h2_, h3_, h4_, h5_, h6_, h7_, h8_, h9_, h10_, h11_, h12_, h13_⟩
    have HO281 : Aside0 (Kd.S k36 36 w16 w.heap.size (fun k_ => some k_ ≠ (v286 : Value).ownBlock) v280 t279) := ⟨h0_⟩
    have HO284 : Aside0 (Kd.S k46 46 w16 w.heap.size (fun k_ => some k_ ≠ (v289 : Value).ownBlock) v283 t282) := ⟨h1_⟩
    have HO287 : Aside0 (Kd.S k36 36 w16 w.heap.size (fun k_ => some k_ ≠ (v280 : Value).ownBlock) v286 t285) := ⟨h2_⟩
    have HO290 : Aside0 (Kd.S k46 46 w16 w.heap.size (fun k_ => some k_ ≠ (v283 : Value).ownBlock) v289 t288) := ⟨h3_⟩
    have BK291 : Aside0 (w16.heap[gb291]? = some (.cells #[.slice none 0 0, .slice none 0 0] 30 (0, 0))) := ⟨h6_⟩
    have GW291 : Aside0 (w.heap.size ≤ gb291) := ⟨h7_⟩
    have GE291 : Aside0 (w.heap.size ≤ gb291) := ⟨h8_⟩
    have NB276_291 : Aside0 (gb276 ≠ gb291) := ⟨h9_⟩
    have NB291_276 : Aside0 (gb291 ≠ gb276) := ⟨h10_⟩
    have NB277_291 : Aside0 (gb277 ≠ gb291) := ⟨h11_⟩
    have NB291_277 : Aside0 (gb291 ≠ gb277) := ⟨h12_⟩
    replace BK276 : Aside0 (w16.heap[gb276]? = some (.cells #[.int .u8 a0_0, .slice A0_1 l0_1.length c0_1, .slice A0_2 l0_2.length c0_2, .slice A0_3 l0_3.length c0_3, .slice A0_4 l0_4.length c0_4, .slice A0_5 l0_5.length c0_5] 25 (0, 0))) := ⟨h4_⟩
    replace BK277 : Aside0 (w16.heap[gb277]? = some (.cells #[.int .u8 a1_0, .slice A1_1 l1_1.length c1_1, .slice A1_2 l1_2.length c1_2, .slice A1_3 l1_3.length c1_3, .slice A1_4 l1_4.length c1_4, .slice A1_5 l1_5.length c1_5] 25 (0, 0))) := ⟨h5_⟩
    replace HB : Aside0 (Below w.heap.size w w16) := ⟨h13_⟩
    clear h0_ h1_ h2_ h3_ h4_ h5_ h6_ h7_ h8_ h9_ h10_ h11_ h12_ h13_
    have hHeld : CS6 w16 gb276 (.int .u8 a0_0) (.slice A0_1 l0_1.length c0_1) (.slice A0_2 l0_2.length c0_2) (.slice A0_3 l0_3.length c0_3) (.slice A0_4 l0_4.length c0_4) (.slice A0_5 l0_5.length c0_5) (CE6 w16 gb277 (.int .u8 a1_0) (.slice A1_1 l1_1.length c1_1) (.slice A1_2 l1_2.length c1_2) (.slice A1_3 l1_3.length c1_3) (.slice A1_4 l1_4.length c1_4) (.slice A1_5 l1_5.length c1_5)) := hS_
    refine norm_ (a' := ?_) ?_ ?_
    rotate_left
    ·simp only [putAll, Act.put, List.setIfInBounds_toArray, List.set_cons_zero, List.set_cons_succ]
     rfl
    refine on HT_ 5 (some 8) (mk 8 63) fun K hK => ?_
    refine box_step ?hg (N := 8) ?hd (cs := #[.slice none 0 0, .slice none 0 0]) (t := 30) ?hr ?_; (case hd => rfl); (case hg => rfl); (case hr => first | (go_simp; done) | (go_simp; rfl))
    intro gb292 hg w17 hbox hb
    have BK292 := Aside0.mk hbox
    have GW292 : Aside0 (w.heap.size ≤ gb292) := bge hg
    have GE292 : Aside0 (w.heap.size ≤ gb292) := bge hg
    have NB276_292 := bne BK276 hg
    have NB292_276 := bnf BK276 hg
    have NB277_292 := bne BK277 hg
    have NB292_277 := bnf BK277 hg
    have NB291_292 := bne BK291 hg
    have NB292_291 := bnf BK291 hg
    replace HO281 := Aside0.mk (Kd.S_below (kS HO281) hb)
    replace HO284 := Aside0.mk (Kd.S_below (kS HO284) hb)
    replace HO287 := Aside0.mk (Kd.S_below (kS HO287) hb)
    replace HO290 := Aside0.mk (Kd.S_below (kS HO290) hb)
    replace BK276 := bkb BK276 hb
    replace BK277 := bkb BK277 hb
    replace BK291 := bkb BK291 hb
    replace HB := bst hb
    clear hb hbox hg
    refine hK.out _ _ (hs6 BK276 (he6 BK277)) (fun hHeld => ?_)
    clear hK K
    refine nm (some 8) ?_
    exact nj (hJ1_3_4_5 (v280, v283, v286, v289, gb291, gb292) _ ⟨hHeld, (kS HO281), (kS HO284), (kS HO287), (kS HO290), (bkq BK276), (bkq BK277), (bkq BK291), (bkq BK292), GW291.out, GE291.out, NB276_291.out, NB291_276.out, NB277_291.out, NB291_277.out, NB292_291.out, NB291_292.out, GW292.out, GE292.out, NB276_292.out, NB292_276.out, NB277_292.out, NB292_277.out, bel⟩)
  rintro ⟨v280, v283, v286, v289, gb291, gb292⟩ w17 ⟨hS_, h0_, h1_, h2_, h3_, h4_, h5_, h6_, h7_, h8_, h9_, h10_, h11_, h12_, h13_, h14_, h15_, h16_, h17_, h18_, h19_, h20_, h21_, h22_⟩
  have HO281 : Aside0 (Kd.S k36 36 w17 w.heap.size (fun k_ => some k_ ≠ (v286 : Value).ownBlock) v280 t279) := ⟨h0_⟩
  have HO284 : Aside0 (Kd.S k46 46 w17 w.heap.size (fun k_ => some k_ ≠ (v289 : Value).ownBlock) v283 t282) := ⟨h1_⟩
  have HO287 : Aside0 (Kd.S k36 36 w17 w.heap.size (fun k_ => some k_ ≠ (v280 : Value).ownBlock) v286 t285) := ⟨h2_⟩
  have HO290 : Aside0 (Kd.S k46 46 w17 w.heap.size (fun k_ => some k_ ≠ (v283 : Value).ownBlock) v289 t288) := ⟨h3_⟩
  have BK291 : Aside0 (w17.heap[gb291]? = some (.cells #[.slice none 0 0, .slice none 0 0] 30 (0, 0))) := ⟨h6_⟩
  have BK292 : Aside0 (w17.heap[gb292]? = some (.cells #[.slice none 0 0, .slice none 0 0] 30 (0, 0))) := ⟨h7_⟩
  have GW291 : Aside0 (w.heap.size ≤ gb291) := ⟨h8_⟩
  have GE291 : Aside0 (w.heap.size ≤ gb291) := ⟨h9_⟩
  have NB276_291 : Aside0 (gb276 ≠ gb291) := ⟨h10_⟩
  have NB291_276 : Aside0 (gb291 ≠ gb276) := ⟨h11_⟩
  have NB277_291 : Aside0 (gb277 ≠ gb291) := ⟨h12_⟩
  have NB291_277 : Aside0 (gb291 ≠ gb277) := ⟨h13_⟩
  have NB292_291 : Aside0 (gb292 ≠ gb291) := ⟨h14_⟩
  have NB291_292 : Aside0 (gb291 ≠ gb292) := ⟨h15_⟩
  have GW292 : Aside0 (w.heap.size ≤ gb292) := ⟨h16_⟩
  have GE292 : Aside0 (w.heap.size ≤ gb292) := ⟨h17_⟩
  have NB276_292 : Aside0 (gb276 ≠ gb292) := ⟨h18_⟩
  have NB292_276 : Aside0 (gb292 ≠ gb276) := ⟨h19_⟩
  have NB277_292 : Aside0 (gb277 ≠ gb292) := ⟨h20_⟩
  have NB292_277 : Aside0 (gb292 ≠ gb277) := ⟨h21_⟩
  replace BK276 : Aside0 (w17.heap[gb276]? = some (.cells #[.int .u8 a0_0, .slice A0_1 l0_1.length c0_1, .slice A0_2 l0_2.length c0_2, .slice A0_3 l0_3.length c0_3, .slice A0_4 l0_4.length c0_4, .slice A0_5 l0_5.length c0_5] 25 (0, 0))) := ⟨h4_⟩
  replace BK277 : Aside0 (w17.heap[gb277]? = some (.cells #[.int .u8 a1_0, .slice A1_1 l1_1.length c1_1, .slice A1_2 l1_2.length c1_2, .slice A1_3 l1_3.length c1_3, .slice A1_4 l1_4.length c1_4, .slice A1_5 l1_5.length c1_5] 25 (0, 0))) := ⟨h5_⟩
  replace HB : Aside0 (Below w.heap.size w w17) := ⟨h22_⟩
  clear h0_ h1_ h2_ h3_ h4_ h5_ h6_ h7_ h8_ h9_ h10_ h11_ h12_ h13_ h14_ h15_ h16_ h17_ h18_ h19_ h20_ h21_ h22_
  have hHeld : CS6 w17 gb276 (.int .u8 a0_0) (.slice A0_1 l0_1.length c0_1) (.slice A0_2 l0_2.length c0_2) (.slice A0_3 l0_3.length c0_3) (.slice A0_4 l0_4.length c0_4) (.slice A0_5 l0_5.length c0_5) (CE6 w17 gb277 (.int .u8 a1_0) (.slice A1_1 l1_1.length c1_1) (.slice A1_2 l1_2.length c1_2) (.slice A1_3 l1_3.length c1_3) (.slice A1_4 l1_4.length c1_4) (.slice A1_5 l1_5.length c1_5)) := hS_
  obtain ⟨Ao18, co18, eo18⟩ := Kd.S_slice HO281.out
  (first | subst eo18 | (injection eo18 with f1_ f2_ f3_; have f4_ := f1_.symm; have f5_ := f3_.symm; clear f1_ f2_ f3_; subst f4_; subst f5_))
  obtain ⟨Ao20, co20, eo20⟩ := Kd.S_slice HO284.out
  (first | subst eo20 | (injection eo20 with f1_ f2_ f3_; have f4_ := f1_.symm; have f5_ := f3_.symm; clear f1_ f2_ f3_; subst f4_; subst f5_))
  obtain ⟨Ao22, co22, eo22⟩ := Kd.S_slice HO287.out
  (first | subst eo22 | (injection eo22 with f1_ f2_ f3_; have f4_ := f1_.symm; have f5_ := f3_.symm; clear f1_ f2_ f3_; subst f4_; subst f5_))
  obtain ⟨Ao24, co24, eo24⟩ := Kd.S_slice HO290.out
  (first | subst eo24 | (injection eo24 with f1_ f2_ f3_; have f4_ := f1_.symm; have f5_ := f3_.symm; clear f1_ f2_ f3_; subst f4_; subst f5_))
  refine norm_ (a' := ?_) ?_ ?_
  rotate_left
  ·simp only [putAll, Act.put, List.setIfInBounds_toArray, List.set_cons_zero, List.set_cons_succ]
   rfl
  refine on HT_ 6 (none) (mk 8 127) fun K hK => ?_
  have hs19 : w17.cell? ⟨gb291, 0, none⟩ = some (.slice none 0 0) := (blk_cell BK291.out 0).trans rfl
  have hfs19 := blk_frozen BK291.out 0
  have hns19_0 := NB276_291.out
  have hns19_1 := NB277_291.out
  have hns19_3 := NB292_291.out
  have hms19_0 := NB291_276.out
  have hms19_1 := NB291_277.out
  have hms19_3 := NB291_292.out
  have hs21 : w17.cell? ⟨gb291, 1, none⟩ = some (.slice none 0 0) := (blk_cell BK291.out 1).trans rfl
  have hfs21 := blk_frozen BK291.out 1
  have hns21_0 := NB276_291.out
  have hns21_1 := NB277_291.out
  have hns21_3 := NB292_291.out
  have hms21_0 := NB291_276.out
  have hms21_1 := NB291_277.out
  have hms21_3 := NB291_292.out
  refine skip_ (w1 := ?_) (by rfl) rfl ?_ ?_
  rotate_left
  ·go_simp
   rfl
  refine hK.out _ _ ⟨((cell_far (p := ⟨gb291, _, none⟩) NB276_291.out _).trans (((cell_far (p := ⟨gb291, _, none⟩) NB276_291.out _).trans (hHeld.1)))), ((cell_far (p := ⟨gb291, _, none⟩) NB276_291.out _).trans (((cell_far (p := ⟨gb291, _, none⟩) NB276_291.out _).trans (hHeld.2.1)))), ((cell_far (p := ⟨gb291, _, none⟩) NB276_291.out _).trans (((cell_far (p := ⟨gb291, _, none⟩) NB276_291.out _).trans (hHeld.2.2.1)))), ((cell_far (p := ⟨gb291, _, none⟩) NB276_291.out _).trans (((cell_far (p := ⟨gb291, _, none⟩) NB276_291.out _).trans (hHeld.2.2.2.1)))), ((cell_far (p := ⟨gb291, _, none⟩) NB276_291.out _).trans (((cell_far (p := ⟨gb291, _, none⟩) NB276_291.out _).trans (hHeld.2.2.2.2.1)))), ((cell_far (p := ⟨gb291, _, none⟩) NB276_291.out _).trans (((cell_far (p := ⟨gb291, _, none⟩) NB276_291.out _).trans (hHeld.2.2.2.2.2.1)))), ((cell_far (p := ⟨gb291, _, none⟩) NB277_291.out _).trans (((cell_far (p := ⟨gb291, _, none⟩) NB277_291.out _).trans (hHeld.2.2.2.2.2.2.1)))), ((cell_far (p := ⟨gb291, _, none⟩) NB277_291.out _).trans (((cell_far (p := ⟨gb291, _, none⟩) NB277_291.out _).trans (hHeld.2.2.2.2.2.2.2.1)))), ((cell_far (p := ⟨gb291, _, none⟩) NB277_291.out _).trans (((cell_far (p := ⟨gb291, _, none⟩) NB277_291.out _).trans (hHeld.2.2.2.2.2.2.2.2.1)))), ((cell_far (p := ⟨gb291, _, none⟩) NB277_291.out _).trans (((cell_far (p := ⟨gb291, _, none⟩) NB277_291.out _).trans (hHeld.2.2.2.2.2.2.2.2.2.1)))), ((cell_far (p := ⟨gb291, _, none⟩) NB277_291.out _).trans (((cell_far (p := ⟨gb291, _, none⟩) NB277_291.out _).trans (hHeld.2.2.2.2.2.2.2.2.2.2.1)))), ((cell_far (p := ⟨gb291, _, none⟩) NB277_291.out _).trans (((cell_far (p := ⟨gb291, _, none⟩) NB277_291.out _).trans (hHeld.2.2.2.2.2.2.2.2.2.2.2))))⟩ (fun hHeld => ?_)
  clear hK K
  refine on HT_ 7 (none) (mk 8 255) fun K hK => ?_
  have hs23 : w17.cell? ⟨gb292, 0, none⟩ = some (.slice none 0 0) := (blk_cell BK292.out 0).trans rfl
  have hfs23 := blk_frozen BK292.out 0
  have hns23_0 := NB276_292.out
  have hns23_1 := NB277_292.out
  have hns23_2 := NB291_292.out
  have hms23_0 := NB292_276.out
  have hms23_1 := NB292_277.out
  have hms23_2 := NB292_291.out
  have hs25 : w17.cell? ⟨gb292, 1, none⟩ = some (.slice none 0 0) := (blk_cell BK292.out 1).trans rfl
  have hfs25 := blk_frozen BK292.out 1
  have hns25_0 := NB276_292.out
  have hns25_1 := NB277_292.out
  have hns25_2 := NB291_292.out
  have hms25_0 := NB292_276.out
  have hms25_1 := NB292_277.out
  have hms25_2 := NB292_291.out
  refine skip_ (w1 := ?_) (by rfl) rfl ?_ ?_
  rotate_left
  ·go_simp
   rfl
  refine hK.out _ _ ⟨((cell_far (p := ⟨gb292, _, none⟩) NB276_292.out _).trans (((cell_far (p := ⟨gb292, _, none⟩) NB276_292.out _).trans (hHeld.1)))), ((cell_far (p := ⟨gb292, _, none⟩) NB276_292.out _).trans (((cell_far (p := ⟨gb292, _, none⟩) NB276_292.out _).trans (hHeld.2.1)))), ((cell_far (p := ⟨gb292, _, none⟩) NB276_292.out _).trans (((cell_far (p := ⟨gb292, _, none⟩) NB276_292.out _).trans (hHeld.2.2.1)))), ((cell_far (p := ⟨gb292, _, none⟩) NB276_292.out _).trans (((cell_far (p := ⟨gb292, _, none⟩) NB276_292.out _).trans (hHeld.2.2.2.1)))), ((cell_far (p := ⟨gb292, _, none⟩) NB276_292.out _).trans (((cell_far (p := ⟨gb292, _, none⟩) NB276_292.out _).trans (hHeld.2.2.2.2.1)))), ((cell_far (p := ⟨gb292, _, none⟩) NB276_292.out _).trans (((cell_far (p := ⟨gb292, _, none⟩) NB276_292.out _).trans (hHeld.2.2.2.2.2.1)))), ((cell_far (p := ⟨gb292, _, none⟩) NB277_292.out _).trans (((cell_far (p := ⟨gb292, _, none⟩) NB277_292.out _).trans (hHeld.2.2.2.2.2.2.1)))), ((cell_far (p := ⟨gb292, _, none⟩) NB277_292.out _).trans (((cell_far (p := ⟨gb292, _, none⟩) NB277_292.out _).trans (hHeld.2.2.2.2.2.2.2.1)))), ((cell_far (p := ⟨gb292, _, none⟩) NB277_292.out _).trans (((cell_far (p := ⟨gb292, _, none⟩) NB277_292.out _).trans (hHeld.2.2.2.2.2.2.2.2.1)))), ((cell_far (p := ⟨gb292, _, none⟩) NB277_292.out _).trans (((cell_far (p := ⟨gb292, _, none⟩) NB277_292.out _).trans (hHeld.2.2.2.2.2.2.2.2.2.1)))), ((cell_far (p := ⟨gb292, _, none⟩) NB277_292.out _).trans (((cell_far (p := ⟨gb292, _, none⟩) NB277_292.out _).trans (hHeld.2.2.2.2.2.2.2.2.2.2.1)))), ((cell_far (p := ⟨gb292, _, none⟩) NB277_292.out _).trans (((cell_far (p := ⟨gb292, _, none⟩) NB277_292.out _).trans (hHeld.2.2.2.2.2.2.2.2.2.2.2))))⟩ (fun hHeld => ?_)
  clear hK K
  refine done_ (done_of HT_.out (by kernel_rfl)) ?_
  have hnb26 := NB276_277.out
  have hnc26 := NB277_276.out
  have hnb27 := NB276_291.out
  have hnc27 := NB291_276.out
  have hnb28 := NB276_292.out
  have hnc28 := NB292_276.out
  obtain ⟨hcz29_0, hcz29_1, hcz29_2, hcz29_3, hcz29_4, hcz29_5, hfz29_0, hfz29_1, hfz29_2, hfz29_3, hfz29_4, hfz29_5⟩ := bc6 BK276
  try go_wp2_with (first | ((with_reducible refine gate_dst (N := 18) rfl ?_); refine gl (some 18) Tryd.func9 #[.agg #[.int .u8 a0_0, .slice A0_1 l0_1.length c0_1, .slice A0_2 l0_2.length c0_2, .slice A0_3 l0_3.length c0_3, .slice A0_4 l0_4.length c0_4, .slice A0_5 l0_5.length c0_5]] ?_; (with_reducible refine (maquettelaw07_Shape_Config.calls k a0_0 _ _ l0_1 _ _ l0_2 _ _ l0_3 _ _ l0_4 _ _ l0_5 t293 t296 _ ?side1 ?side2 ?side3 ?side4 ?side5 ?side6 ?side7 ?side8 ?side9 ?side10 A8.out).mono ?_); (case side1 => exact Kd.C_below HR0_1.out bel); (case side2 => exact HC0_1.out); (case side3 => exact Kd.C_below HR0_2.out bel); (case side4 => exact HC0_2.out); (case side5 => exact Kd.C_below HR0_3.out bel); (case side6 => exact HC0_3.out); (case side7 => exact Kd.C_below HR0_4.out bel); (case side8 => exact HC0_4.out); (case side9 => exact Kd.C_below HR0_5.out bel); (case side10 => exact HC0_5.out); rintro e w30 ⟨v294, v297, rfl, ho0, ho1, hb⟩; refine ⟨_, rfl, ?_⟩; have HO295 := Aside0.mk (Kd.S_lower (Kd.S_new' (Kd.S_new' ho0 (Kd.S_lt (by (with_reducible repeat (first | apply Kd.S_alloc | apply Kd.S_drewN | apply Kd.S_drew)); exact (Kd.S_mono (Kd.S_mono (Kd.S_far (p := ⟨gb292, 1, none⟩) (Kd.S_far (p := ⟨gb292, 0, none⟩) (Kd.S_far (p := ⟨gb291, 1, none⟩) (Kd.S_far (p := ⟨gb291, 0, none⟩) (Kd.S_types (Kd.S_types HO281.out BK291.out (by decide)) BK292.out (by decide)) (fun _ hk => hk.1.2) (.slice Ao18 t279.length co18)) (fun _ hk => hk.1.2) (.slice Ao20 t282.length co20)) (fun _ hk => hk.2) (.slice Ao22 t285.length co22)) (fun _ hk => hk.2) (.slice Ao24 t288.length co24)) (fun _ h_ => h_.1)) (fun _ h_ => h_.1))))) (Kd.S_lt (by (with_reducible repeat (first | apply Kd.S_alloc | apply Kd.S_drewN | apply Kd.S_drew)); exact (Kd.S_mono (Kd.S_mono (Kd.S_far (p := ⟨gb292, 1, none⟩) (Kd.S_far (p := ⟨gb292, 0, none⟩) (Kd.S_far (p := ⟨gb291, 1, none⟩) (Kd.S_far (p := ⟨gb291, 0, none⟩) (Kd.S_types (Kd.S_types HO287.out BK291.out (by decide)) BK292.out (by decide)) (fun _ hk => hk.1.2) (.slice Ao18 t279.length co18)) (fun _ hk => hk.1.2) (.slice Ao20 t282.length co20)) (fun _ hk => hk.2) (.slice Ao22 t285.length co22)) (fun _ hk => hk.2) (.slice Ao24 t288.length co24)) (fun _ h_ => h_.1)) (fun _ h_ => h_.1))))) (below_size bel)); have HO298 := Aside0.mk (Kd.S_lower (Kd.S_new' (Kd.S_new' ho1 (Kd.S_lt (by (with_reducible repeat (first | apply Kd.S_alloc | apply Kd.S_drewN | apply Kd.S_drew)); exact (Kd.S_mono (Kd.S_mono (Kd.S_far (p := ⟨gb292, 1, none⟩) (Kd.S_far (p := ⟨gb292, 0, none⟩) (Kd.S_far (p := ⟨gb291, 1, none⟩) (Kd.S_far (p := ⟨gb291, 0, none⟩) (Kd.S_types (Kd.S_types HO284.out BK291.out (by decide)) BK292.out (by decide)) (fun _ hk => hk.1.2) (.slice Ao18 t279.length co18)) (fun _ hk => hk.1.2) (.slice Ao20 t282.length co20)) (fun _ hk => hk.2) (.slice Ao22 t285.length co22)) (fun _ hk => hk.2) (.slice Ao24 t288.length co24)) (fun _ h_ => h_.1)) (fun _ h_ => h_.1))))) (Kd.S_lt (by (with_reducible repeat (first | apply Kd.S_alloc | apply Kd.S_drewN | apply Kd.S_drew)); exact (Kd.S_mono (Kd.S_mono (Kd.S_far (p := ⟨gb292, 1, none⟩) (Kd.S_far (p := ⟨gb292, 0, none⟩) (Kd.S_far (p := ⟨gb291, 1, none⟩) (Kd.S_far (p := ⟨gb291, 0, none⟩) (Kd.S_types (Kd.S_types HO290.out BK291.out (by decide)) BK292.out (by decide)) (fun _ hk => hk.1.2) (.slice Ao18 t279.length co18)) (fun _ hk => hk.1.2) (.slice Ao20 t282.length co20)) (fun _ hk => hk.2) (.slice Ao22 t285.length co22)) (fun _ hk => hk.2) (.slice Ao24 t288.length co24)) (fun _ h_ => h_.1)) (fun _ h_ => h_.1))))) (below_size bel)); replace HO281 := Aside0.mk (Kd.S_elder' (by (with_reducible repeat (first | apply Kd.S_alloc | apply Kd.S_drewN | apply Kd.S_drew)); exact (Kd.S_mono (Kd.S_mono (Kd.S_far (p := ⟨gb292, 1, none⟩) (Kd.S_far (p := ⟨gb292, 0, none⟩) (Kd.S_far (p := ⟨gb291, 1, none⟩) (Kd.S_far (p := ⟨gb291, 0, none⟩) (Kd.S_types (Kd.S_types HO281.out BK291.out (by decide)) BK292.out (by decide)) (fun _ hk => hk.1.2) (.slice Ao18 t279.length co18)) (fun _ hk => hk.1.2) (.slice Ao20 t282.length co20)) (fun _ hk => hk.2) (.slice Ao22 t285.length co22)) (fun _ hk => hk.2) (.slice Ao24 t288.length co24)) (fun _ h_ => h_.1)) (fun _ h_ => h_.1))) (Kd.S_base ho0) hb); replace HO284 := Aside0.mk (Kd.S_elder' (by (with_reducible repeat (first | apply Kd.S_alloc | apply Kd.S_drewN | apply Kd.S_drew)); exact (Kd.S_mono (Kd.S_mono (Kd.S_far (p := ⟨gb292, 1, none⟩) (Kd.S_far (p := ⟨gb292, 0, none⟩) (Kd.S_far (p := ⟨gb291, 1, none⟩) (Kd.S_far (p := ⟨gb291, 0, none⟩) (Kd.S_types (Kd.S_types HO284.out BK291.out (by decide)) BK292.out (by decide)) (fun _ hk => hk.1.2) (.slice Ao18 t279.length co18)) (fun _ hk => hk.1.2) (.slice Ao20 t282.length co20)) (fun _ hk => hk.2) (.slice Ao22 t285.length co22)) (fun _ hk => hk.2) (.slice Ao24 t288.length co24)) (fun _ h_ => h_.1)) (fun _ h_ => h_.1))) (Kd.S_base ho1) hb); replace HO287 := Aside0.mk (Kd.S_elder' (by (with_reducible repeat (first | apply Kd.S_alloc | apply Kd.S_drewN | apply Kd.S_drew)); exact (Kd.S_mono (Kd.S_mono (Kd.S_far (p := ⟨gb292, 1, none⟩) (Kd.S_far (p := ⟨gb292, 0, none⟩) (Kd.S_far (p := ⟨gb291, 1, none⟩) (Kd.S_far (p := ⟨gb291, 0, none⟩) (Kd.S_types (Kd.S_types HO287.out BK291.out (by decide)) BK292.out (by decide)) (fun _ hk => hk.1.2) (.slice Ao18 t279.length co18)) (fun _ hk => hk.1.2) (.slice Ao20 t282.length co20)) (fun _ hk => hk.2) (.slice Ao22 t285.length co22)) (fun _ hk => hk.2) (.slice Ao24 t288.length co24)) (fun _ h_ => h_.1)) (fun _ h_ => h_.1))) (Kd.S_base ho0) hb); replace HO290 := Aside0.mk (Kd.S_elder' (by (with_reducible repeat (first | apply Kd.S_alloc | apply Kd.S_drewN | apply Kd.S_drew)); exact (Kd.S_mono (Kd.S_mono (Kd.S_far (p := ⟨gb292, 1, none⟩) (Kd.S_far (p := ⟨gb292, 0, none⟩) (Kd.S_far (p := ⟨gb291, 1, none⟩) (Kd.S_far (p := ⟨gb291, 0, none⟩) (Kd.S_types (Kd.S_types HO290.out BK291.out (by decide)) BK292.out (by decide)) (fun _ hk => hk.1.2) (.slice Ao18 t279.length co18)) (fun _ hk => hk.1.2) (.slice Ao20 t282.length co20)) (fun _ hk => hk.2) (.slice Ao22 t285.length co22)) (fun _ hk => hk.2) (.slice Ao24 t288.length co24)) (fun _ h_ => h_.1)) (fun _ h_ => h_.1))) (Kd.S_base ho1) hb); replace BK276 := bkb BK276 hb; replace BK277 := bkb BK277 hb; replace BK291 := Aside0.mk (blk_below (g := gb291) (o := .cells #[.slice Ao18 t279.length co18, .slice Ao20 t282.length co20] 30 (0, 0)) (bkp BK291) hb); replace BK292 := Aside0.mk (blk_below (g := gb292) (o := .cells #[.slice Ao22 t285.length co22, .slice Ao24 t288.length co24] 30 (0, 0)) (bkp BK292) hb); replace HB := bst hb; (try clear hb); (try clear hb2); (try clear hk); (try clear hi); (try clear ho0); (try clear ho1)) | ((with_reducible refine gate_dst (N := 9) rfl ?_); refine bx 9 (cs := #[.slice none 0 0, .slice none 0 0]) (t := 30) (h := ?_); intro gb299 hg w31 hbox hb; have BK299 := Aside0.mk hbox; have GW299 : Aside0 (w.heap.size ≤ gb299) := bge hg; have GE299 : Aside0 (w.heap.size ≤ gb299) := bge hg; have NB276_299 := bne BK276 hg; have NB299_276 := bnf BK276 hg; have NB277_299 := bne BK277 hg; have NB299_277 := bnf BK277 hg; have NB291_299 := bne BK291 hg; have NB299_291 := bnf BK291 hg; have NB292_299 := bne BK292 hg; have NB299_292 := bnf BK292 hg; replace HO281 := Aside0.mk (Kd.S_below (kS HO281) hb); replace HO284 := Aside0.mk (Kd.S_below (kS HO284) hb); replace HO287 := Aside0.mk (Kd.S_below (kS HO287) hb); replace HO290 := Aside0.mk (Kd.S_below (kS HO290) hb); replace HO295 := Aside0.mk (Kd.S_below (kS HO295) hb); replace HO298 := Aside0.mk (Kd.S_below (kS HO298) hb); replace BK276 := bkb BK276 hb; replace BK277 := bkb BK277 hb; replace BK291 := bkb BK291 hb; replace BK292 := bkb BK292 hb; replace HB := bst hb; clear hb hbox hg; obtain ⟨Ao32, co32, eo32⟩ := Kd.S_slice HO295.out; subst eo32; have hnb33 := NB299_276.out; have hnc33 := NB276_299.out; have hnb34 := NB299_277.out; have hnc34 := NB277_299.out; have hnb35 := NB299_291.out; have hnc35 := NB291_299.out; have hnb36 := NB299_292.out; have hnc36 := NB292_299.out; obtain ⟨hcz37_0, hcz37_1, hfz37_0, hfz37_1⟩ := bc2 BK299; obtain ⟨Ao38, co38, eo38⟩ := Kd.S_slice HO298.out; subst eo38))
  go_loopg [22] k (fun kq v22 w' => ∃ (x22_1 : Int) (x292001_1 : List (S46)) (x293001_1 : List (S46)) (x300001_1 : List (S46)) (u292001 : Value) (u293001 : Value) (u300001 : Value), v22 = .int .i64 x22_1 ∧ Aside0 (maquettelaw07_TextSame.l0 kq a2 (t296.length : Int) x22_1 t279 x292001_1 t285 x293001_1 t293 x300001_1 = some r) ∧ Aside0 (kq ≤ k) ∧ Aside0 (Kd.S k36 36 w' w.heap.size (fun k_ => some k_ ≠ ((.slice Ao22 t285.length co22) : Value).ownBlock ∧ some k_ ≠ ((.slice Ao32 t293.length co32) : Value).ownBlock) (.slice Ao18 t279.length co18) t279) ∧ Aside0 (Kd.S k46 46 w' w.heap.size (fun k_ => some k_ ≠ (u293001 : Value).ownBlock ∧ some k_ ≠ (u300001 : Value).ownBlock) u292001 x292001_1) ∧ Aside0 (Kd.S k36 36 w' w.heap.size (fun k_ => some k_ ≠ ((.slice Ao18 t279.length co18) : Value).ownBlock ∧ some k_ ≠ ((.slice Ao32 t293.length co32) : Value).ownBlock) (.slice Ao22 t285.length co22) t285) ∧ Aside0 (Kd.S k46 46 w' w.heap.size (fun k_ => some k_ ≠ (u292001 : Value).ownBlock ∧ some k_ ≠ (u300001 : Value).ownBlock) u293001 x293001_1) ∧ Aside0 (Kd.S k36 36 w' w.heap.size (fun k_ => some k_ ≠ ((.slice Ao18 t279.length co18) : Value).ownBlock ∧ some k_ ≠ ((.slice Ao22 t285.length co22) : Value).ownBlock) (.slice Ao32 t293.length co32) t293) ∧ Aside0 (Kd.S k46 46 w' w.heap.size (fun k_ => some k_ ≠ (u292001 : Value).ownBlock ∧ some k_ ≠ (u293001 : Value).ownBlock) u300001 x300001_1) ∧ Aside0 (w'.heap[gb276]? = some (.cells #[.int .u8 a0_0, (.slice A0_1 l0_1.length c0_1), (.slice A0_2 l0_2.length c0_2), (.slice A0_3 l0_3.length c0_3), (.slice A0_4 l0_4.length c0_4), (.slice A0_5 l0_5.length c0_5)] 25 (0, 0))) ∧ Aside0 (w'.heap[gb277]? = some (.cells #[.int .u8 a1_0, (.slice A1_1 l1_1.length c1_1), (.slice A1_2 l1_2.length c1_2), (.slice A1_3 l1_3.length c1_3), (.slice A1_4 l1_4.length c1_4), (.slice A1_5 l1_5.length c1_5)] 25 (0, 0))) ∧ Aside0 (w'.heap[gb291]? = some (.cells #[(.slice Ao18 t279.length co18), u292001] 30 (0, 0))) ∧ Aside0 (w'.heap[gb292]? = some (.cells #[(.slice Ao22 t285.length co22), u293001] 30 (0, 0))) ∧ Aside0 (w'.heap[gb299]? = some (.cells #[(.slice Ao32 t293.length co32), u300001] 30 (0, 0))) ∧ Aside0 (Below w.heap.size w w'))
  case atStart => exact ⟨(0), (t282), (t288), (t296), (.slice Ao20 t282.length co20), (.slice Ao24 t288.length co24), (.slice Ao38 t296.length co38), (by first | rfl | (simp; done) | (simp [*]; done)), H', ⟨Nat.le_refl _⟩, ⟨by (with_reducible repeat (first | apply Kd.S_alloc | apply Kd.S_drewN | apply Kd.S_drew)); exact Kd.S_mono (Kd.S_far (p := ⟨gb299, 1, none⟩) (Kd.S_far (p := ⟨gb299, 0, none⟩) (Kd.S_types HO281.out BK299.out (by decide)) (fun _ hk => hk.2) (.slice Ao32 t293.length co32)) (fun _ hk => hk.2) (.slice Ao38 t296.length co38)) (fun _ hk => ⟨hk.1.1, hk.1.2⟩)⟩, ⟨by (with_reducible repeat (first | apply Kd.S_alloc | apply Kd.S_drewN | apply Kd.S_drew)); exact Kd.S_mono (Kd.S_far (p := ⟨gb299, 1, none⟩) (Kd.S_far (p := ⟨gb299, 0, none⟩) (Kd.S_types HO284.out BK299.out (by decide)) (fun _ hk => hk.2) (.slice Ao32 t293.length co32)) (fun _ hk => hk.2) (.slice Ao38 t296.length co38)) (fun _ hk => ⟨hk.1.1, hk.1.2⟩)⟩, ⟨by (with_reducible repeat (first | apply Kd.S_alloc | apply Kd.S_drewN | apply Kd.S_drew)); exact Kd.S_mono (Kd.S_far (p := ⟨gb299, 1, none⟩) (Kd.S_far (p := ⟨gb299, 0, none⟩) (Kd.S_types HO287.out BK299.out (by decide)) (fun _ hk => hk.2) (.slice Ao32 t293.length co32)) (fun _ hk => hk.2) (.slice Ao38 t296.length co38)) (fun _ hk => ⟨hk.1.1, hk.1.2⟩)⟩, ⟨by (with_reducible repeat (first | apply Kd.S_alloc | apply Kd.S_drewN | apply Kd.S_drew)); exact Kd.S_mono (Kd.S_far (p := ⟨gb299, 1, none⟩) (Kd.S_far (p := ⟨gb299, 0, none⟩) (Kd.S_types HO290.out BK299.out (by decide)) (fun _ hk => hk.2) (.slice Ao32 t293.length co32)) (fun _ hk => hk.2) (.slice Ao38 t296.length co38)) (fun _ hk => ⟨hk.1.1, hk.1.2⟩)⟩, ⟨by (with_reducible repeat (first | apply Kd.S_alloc | apply Kd.S_drewN | apply Kd.S_drew)); exact Kd.S_mono (Kd.S_far (p := ⟨gb299, 1, none⟩) (Kd.S_far (p := ⟨gb299, 0, none⟩) (Kd.S_types HO295.out BK299.out (by decide)) (fun _ hk => hk.2) (.slice Ao32 t293.length co32)) (fun _ hk => hk.2) (.slice Ao38 t296.length co38)) (fun _ hk => ⟨hk.1.1.2, hk.1.2⟩)⟩, ⟨by (with_reducible repeat (first | apply Kd.S_alloc | apply Kd.S_drewN | apply Kd.S_drew)); exact Kd.S_mono (Kd.S_far (p := ⟨gb299, 1, none⟩) (Kd.S_far (p := ⟨gb299, 0, none⟩) (Kd.S_types HO298.out BK299.out (by decide)) (fun _ hk => hk.2) (.slice Ao32 t293.length co32)) (fun _ hk => hk.2) (.slice Ao38 t296.length co38)) (fun _ hk => ⟨hk.1.1.2, hk.1.2⟩)⟩, ⟨bkq BK276⟩, ⟨bkq BK277⟩, ⟨bkq BK291⟩, ⟨bkq BK292⟩, ⟨bkp BK299⟩, ⟨by repeat (first | (with_reducible first | exact HB.out | apply below_alloc | apply pw_below_drewN | apply below_drew1 | refine below_set ?_ GE276.out | refine below_set ?_ GE277.out | refine below_set ?_ GE291.out | refine below_set ?_ GE292.out | refine below_set ?_ GE299.out) | exact HB.out)⟩⟩
  case round =>
   clear H'
   try clear c1
   try clear c2
   try clear p2
   try clear c3
   try clear c9
   try clear c26
   try clear c27
   try clear c28
   try clear c33
   try clear c34
   try clear c35
   try clear c36
   try clear hcz29_0 hcz29_1 hcz29_2 hcz29_3 hcz29_4 hcz29_5 hfz29_0 hfz29_1 hfz29_2 hfz29_3 hfz29_4 hfz29_5
   try clear hcz37_0 hcz37_1 hfz37_0 hfz37_1
   obtain ⟨x22_1, x292001_1, x293001_1, x300001_1, u292001, u293001, u300001, rfl, HA, HK1, HO_292000, HO_292001, HO_293000, HO_293001, HO_300000, HO_300001, BK276, BK277, BK291, BK292, BK299, HB⟩ := hrel
   cases gk with
   | zero => exact absurd HA.out (by simp [maquettelaw07_TextSame.l0])
   | succ k1 =>
    have H := HA.out
    clear HA
    simp only [maquettelaw07_TextSame.l0] at H
    by_cases c39 : x22_1 < (t296.length : Int)
    ·rw [if_pos c39] at H
     have c39b0 := decide_eq_true c39
     clear c39
     by_cases c40 : 0 ≤ x22_1
     ·rw [if_pos c40] at H
      have c40b0 := decide_eq_true c40
      clear c40
      by_cases c41 : x22_1 < (x300001_1.length : Int)
      ·rw [if_pos c41] at H
       have c41b0 := decide_eq_true c41
       clear c41
       obtain ⟨y300, hy300⟩ : ∃ y_ : List (S46), y_ = (x300001_1.set (x22_1 : Int).toNat (⟨(rd_T46 x300001_1 x22_1).f0, (rd_T46 x300001_1 x22_1).f1, (rd_T46 x300001_1 x22_1).f2, (rd_T46 x300001_1 x22_1).f3, a2⟩ : S46)) := ⟨_, rfl⟩
       replace H : (maquettelaw07_TextSame.l0 k1 a2 (t296.length : Int) (wrap64 (x22_1 + 1)) t279 x292001_1 t285 x293001_1 t293 y300) = some r := by first | (rw [hy300]; with_reducible exact H) | (have H2_ := (Option.bind_some _ _).symm.trans H; rw [hy300]; with_reducible exact H2_) | (have H2_ := (Option.bind_some _ _).symm.trans H; with_reducible exact H2_) | with_reducible exact H | (rw [hy300]; exact H) | exact H
       have Ny300 := Aside0.mk hy300
       clear hy300
       have H' := Aside0.mk H
       clear H
       have hnb43 := NB299_276.out
       have hnc43 := NB276_299.out
       have hnb44 := NB299_277.out
       have hnc44 := NB277_299.out
       have hnb45 := NB299_291.out
       have hnc45 := NB291_299.out
       have hnb46 := NB299_292.out
       have hnc46 := NB292_299.out
       obtain ⟨hcz47_0, hcz47_1, hfz47_0, hfz47_1⟩ := bc2 BK299
       have p42 : 0 ≤ (x22_1 : Int) := of_decide_eq_true (by first | (with_reducible assumption) | assumption)
       have q42 : (x22_1 : Int) < ((x300001_1.length : Int) : Int) := of_decide_eq_true (by first | (with_reducible assumption) | assumption)
       obtain ⟨go42, co42, eo42, gb42, gl42, cl42, HG42⟩ := Kd.S_form HO_300001.out (by omega)
       (first | cases eo42 | (injection eo42 with ea_ en_ ec_; (first | subst ea_ | (injection ea_ with ea_; subst ea_)); subst ec_; clear en_))
       have GB42 := Aside0.mk gb42
       have GG42 := Aside0.mk HG42
       clear gb42 gl42 HG42
       obtain ⟨_, ce42, hcl42, hM42, hcc42, hfr42, _, _⟩ := Kd.S_elem HO_300001.out z46 (x22_1 : Int) p42 q42
       obtain ⟨ve42_1, ve42_2, ve42_3, rfl, ge42_1, ge42_2, ge42_3⟩ := k46_openM hM42
       have hx42_0 : wr.cell? ⟨go42, (x22_1 : Int).toNat * 5, none⟩ = some (.string ((rd_T46 x300001_1 x22_1).f0)) := hcc42 0 _ rfl
       have hx42_1 : wr.cell? ⟨go42, (x22_1 : Int).toNat * 5 + 1, none⟩ = some (ve42_1) := hcc42 1 _ rfl
       have hx42_2 : wr.cell? ⟨go42, (x22_1 : Int).toNat * 5 + 2, none⟩ = some (ve42_2) := hcc42 2 _ rfl
       have hx42_3 : wr.cell? ⟨go42, (x22_1 : Int).toNat * 5 + 3, none⟩ = some (ve42_3) := hcc42 3 _ rfl
       have hx42_4 : wr.cell? ⟨go42, (x22_1 : Int).toNat * 5 + 4, none⟩ = some (.int .i64 ((rd_T46 x300001_1 x22_1).f4)) := hcc42 4 _ rfl
       have hf42_0 : wr.frozen? ⟨go42, (x22_1 : Int).toNat * 5, none⟩ = false := hfr42 0
       have hf42_1 : wr.frozen? ⟨go42, (x22_1 : Int).toNat * 5 + 1, none⟩ = false := hfr42 1
       have hf42_2 : wr.frozen? ⟨go42, (x22_1 : Int).toNat * 5 + 2, none⟩ = false := hfr42 2
       have hf42_3 : wr.frozen? ⟨go42, (x22_1 : Int).toNat * 5 + 3, none⟩ = false := hfr42 3
       have hf42_4 : wr.frozen? ⟨go42, (x22_1 : Int).toNat * 5 + 4, none⟩ = false := hfr42 4
       clear hcl42 hcc42 hfr42 hM42
       replace p42 := eq_true p42
       replace q42 := eq_true q42
       have HX48 := Aside0.mk (show Kd.S k46 46 wr w.heap.size (fun k_ => ((fun k_ => some k_ ≠ (u292001 : Value).ownBlock ∧ some k_ ≠ (u293001 : Value).ownBlock)) k_ ∧ ¬ ((fun _ => False)) k_) (.slice (some ⟨go42, 0, none⟩) x300001_1.length co42) x300001_1 from (by (with_reducible repeat (first | apply Kd.S_alloc | apply Kd.S_drewN | apply Kd.S_drew)); exact Kd.S_mono HO_300001.out (fun k_ hk => ⟨⟨hk.1, hk.2⟩, fun e_ => e_⟩)))
       obtain ⟨oki48, ce48, hcl48, hM48, hcc48, hfr48, hoki48, hH48⟩ := Kd.S_elem HX48.out z46 (x22_1 : Int) (of_decide_eq_true (by first | (with_reducible assumption) | assumption)) (by have h_ : (x22_1 : Int) < ((x300001_1.length : Int) : Int) := of_decide_eq_true (by first | (with_reducible assumption) | assumption); first | exact h_ | (have e_ := (Kd.S_reads' HO_300001.out).1; omega) | simpa using h_)
       obtain ⟨ve48_1, ve48_2, ve48_3, rfl, ge48_1, ge48_2, ge48_3⟩ := k46_openM hM48
       have HP48 := Kd.S_seg hH48 (of_decide_eq_true (by first | (with_reducible assumption) | assumption)) (by have h_ : (x22_1 : Int) < ((x300001_1.length : Int) : Int) := of_decide_eq_true (by first | (with_reducible assumption) | assumption); first | exact h_ | (have e_ := (Kd.S_reads' HO_300001.out).1; omega) | simpa using h_) (seg := [.int .i64 a2]) (j := 4) (show 5 ≤ 5 from by decide) (x' := (⟨(rd_T46 x300001_1 x22_1).f0, (rd_T46 x300001_1 x22_1).f1, (rd_T46 x300001_1 x22_1).f2, (rd_T46 x300001_1 x22_1).f3, a2⟩ : S46)) (k46_mkM _ _ _ (⟨(rd_T46 x300001_1 x22_1).f0, (rd_T46 x300001_1 x22_1).f1, (rd_T46 x300001_1 x22_1).f2, (rd_T46 x300001_1 x22_1).f3, a2⟩ : S46) (Kd.R_mono ge48_1 (fun _ h_ => Or.inl h_)) (Kd.R_mono ge48_2 (fun _ h_ => Or.inl h_)) (Kd.R_mono ge48_3 (fun _ h_ => Or.inl h_))) (fun _ hk => hk) (fun k_ hk_ => hk_.elim)
       have hx48_4 := hcc48 4 _ rfl
       (try simp only [show (k46).sz = 5 from rfl, Nat.mul_one, Nat.add_zero] at hx48_4)
       have hf48_4 := hfr48 4
       (try simp only [show (k46).sz = 5 from rfl, Nat.mul_one, Nat.add_zero] at hf48_4)
       clear hcl48 hcc48 hfr48 hM48 hoki48 hH48
       go_wp2_with (first | ((with_reducible refine gate_store (t := 3) (p := 30) rfl ?_); refine store_event (t := 3) (p := 30) (v := ?vo_w49) (w1 := (wr.setCell ⟨go42, (x22_1 : Int).toNat * 5 + 4, none⟩ (.int .i64 a2))) ?hg ?ho ?hn ?hr ?_; (case ho => rfl); (case hg => rfl); (case hn => rfl); (case hr => first | (go_simp; done) | (go_simp; rfl)); intro w49 hw; have hg : wr.grownBy w49 (some go42) := (by rw [hw]; exact HP48.2); have hp_ : Kd.S k46 46 w49 w.heap.size (fun k_ => some k_ ≠ (u292001 : Value).ownBlock ∧ some k_ ≠ (u293001 : Value).ownBlock) (.slice (some ⟨go42, 0, none⟩) x300001_1.length co42) y300 := (by rw [hw, Ny300.out]; exact HP48.1); clear HP48; replace HO_292000 := Aside0.mk (Kd.S_over' (v := (.slice (some ⟨go42, 0, none⟩) x300001_1.length co42)) (kS HO_292000) (Kd.S_typed HO_300001.out) (by decide) hg); replace HO_292001 := Aside0.mk (Kd.S_after (v := (.slice (some ⟨go42, 0, none⟩) x300001_1.length co42)) (v1 := (.slice (some ⟨go42, 0, none⟩) x300001_1.length co42)) (ok := (fun k_ => some k_ ≠ (u293001 : Value).ownBlock)) (kS HO_292001) hg (.inl rfl)); replace HO_293000 := Aside0.mk (Kd.S_over' (v := (.slice (some ⟨go42, 0, none⟩) x300001_1.length co42)) (kS HO_293000) (Kd.S_typed HO_300001.out) (by decide) hg); replace HO_293001 := Aside0.mk (Kd.S_after (v := (.slice (some ⟨go42, 0, none⟩) x300001_1.length co42)) (v1 := (.slice (some ⟨go42, 0, none⟩) x300001_1.length co42)) (ok := (fun k_ => some k_ ≠ (u292001 : Value).ownBlock)) (kS HO_293001) hg (.inl rfl)); replace HO_300000 := Aside0.mk (Kd.S_over' (v := (.slice (some ⟨go42, 0, none⟩) x300001_1.length co42)) (kS HO_300000) (Kd.S_typed HO_300001.out) (by decide) hg); replace BK276 := Aside0.mk (blk_grown (bkq BK276) hg (Kd.S_ne HO_300001.out BK276.out (by decide))); replace BK277 := Aside0.mk (blk_grown (bkq BK277) hg (Kd.S_ne HO_300001.out BK277.out (by decide))); replace BK291 := Aside0.mk (blk_grown (bkq BK291) hg (Kd.S_ne HO_300001.out BK291.out (by decide))); replace BK292 := Aside0.mk (blk_grown (bkq BK292) hg (Kd.S_ne HO_300001.out BK292.out (by decide))); replace BK299 := Aside0.mk (blk_grown (bkq BK299) hg (Kd.S_ne HO_300001.out BK299.out (by decide))); replace HO_300001 := Aside0.mk (hp_); replace HB := Aside0.mk ((by rw [hw]; exact below_set (HB.out) GB42.out : Below w.heap.size w w49)); clear hg hw hp_))
       go_roundg k1
       case measure => have := HK1.out; omega
       case rel => exact ⟨(wrap64 (x22_1 + 1)), (x292001_1), (x293001_1), (y300), (u292001), (u293001), (.slice (some ⟨go42, 0, none⟩) x300001_1.length co42), (by first | rfl | (simp; done) | (simp [*]; done)), H', ⟨by have := HK1.out; omega⟩, ⟨by (with_reducible repeat (first | apply Kd.S_alloc | apply Kd.S_drewN | apply Kd.S_drew)); exact HO_292000.out⟩, ⟨by (with_reducible repeat (first | apply Kd.S_alloc | apply Kd.S_drewN | apply Kd.S_drew)); exact HO_292001.out⟩, ⟨by (with_reducible repeat (first | apply Kd.S_alloc | apply Kd.S_drewN | apply Kd.S_drew)); exact HO_293000.out⟩, ⟨by (with_reducible repeat (first | apply Kd.S_alloc | apply Kd.S_drewN | apply Kd.S_drew)); exact HO_293001.out⟩, ⟨by (with_reducible repeat (first | apply Kd.S_alloc | apply Kd.S_drewN | apply Kd.S_drew)); exact HO_300000.out⟩, ⟨by (with_reducible repeat (first | apply Kd.S_alloc | apply Kd.S_drewN | apply Kd.S_drew)); exact HO_300001.out⟩, ⟨bkq BK276⟩, ⟨bkq BK277⟩, ⟨bkq BK291⟩, ⟨bkq BK292⟩, ⟨bkq BK299⟩, ⟨by repeat (first | (with_reducible first | exact HB.out | apply below_alloc | apply pw_below_drewN | apply below_drew1 | refine below_set ?_ GE276.out | refine below_set ?_ GE277.out | refine below_set ?_ GE291.out | refine below_set ?_ GE292.out | refine below_set ?_ GE299.out) | exact HB.out)⟩⟩
      ·rw [if_neg c41] at H
       exact absurd H (by simp)
     ·rw [if_neg c40] at H
      exact absurd H (by simp)
    ·rw [if_neg c39] at H
     have c39b0 := decide_eq_false c39
     clear c39
     replace H := Option.bind_eq_some_iff.mp H
     obtain ⟨t301, A500, H⟩ := H
     replace H : ((maquettelaw07_Text.f k1 t279 x292001_1).bind fun t302 => ((maquettelaw07_Text.f k1 t285 x293001_1).bind fun t303 => (if (t301 == (t302.toList == t303.toList)) = true then ((text_Same.f k1 t279 x292001_1 t293 x300001_1).bind fun t304 => (some t304)) else (some false)))) = some r := H
     have A50 := Aside0.mk A500
     clear A500
     replace H := Option.bind_eq_some_iff.mp H
     obtain ⟨t302, A510, H⟩ := H
     replace H : ((maquettelaw07_Text.f k1 t285 x293001_1).bind fun t303 => (if (t301 == (t302.toList == t303.toList)) = true then ((text_Same.f k1 t279 x292001_1 t293 x300001_1).bind fun t304 => (some t304)) else (some false))) = some r := H
     have A51 := Aside0.mk A510
     clear A510
     replace H := Option.bind_eq_some_iff.mp H
     obtain ⟨t303, A520, H⟩ := H
     replace H : (if (t301 == (t302.toList == t303.toList)) = true then ((text_Same.f k1 t279 x292001_1 t293 x300001_1).bind fun t304 => (some t304)) else (some false)) = some r := H
     have A52 := Aside0.mk A520
     clear A520
     by_cases c53 : (t301 == (t302.toList == t303.toList)) = true
     ·rw [if_pos c53] at H
      have c53b0 : (t301 == (t302.toList == t303.toList)) = true := c53
      (try (have c53b1 : decide (t301 = (t302.toList == t303.toList)) = true := by simpa using c53))
      (try (have c53b2 : (t301 == (t302.toList == t303.toList)) = true := by simpa using c53))
      clear c53
      replace H := Option.bind_eq_some_iff.mp H
      obtain ⟨t304, A540, H⟩ := H
      replace H : (some t304) = some r := H
      have A54 := Aside0.mk A540
      clear A540
      obtain rfl := Option.some.inj H
      try go_wp2
      replace HO_292000 := Aside0.mk (Kd.S_drew HO_292000.out)
      replace HO_292001 := Aside0.mk (Kd.S_drew HO_292001.out)
      replace HO_293000 := Aside0.mk (Kd.S_drew HO_293000.out)
      replace HO_293001 := Aside0.mk (Kd.S_drew HO_293001.out)
      replace HO_300000 := Aside0.mk (Kd.S_drew HO_300000.out)
      replace HO_300001 := Aside0.mk (Kd.S_drew HO_300001.out)
      replace BK276 := Aside0.mk (blk_drew BK276.out)
      replace BK277 := Aside0.mk (blk_drew BK277.out)
      replace BK291 := Aside0.mk (blk_drew BK291.out)
      replace BK292 := Aside0.mk (blk_drew BK292.out)
      replace BK299 := Aside0.mk (blk_drew BK299.out)
      replace HB := Aside0.mk (below_drew1 HB.out)
      obtain ⟨Ao56, co56, eo56⟩ := Kd.S_slice HO_292001.out
      (first | subst eo56 | (injection eo56 with f1_ f2_ f3_; have f4_ := f1_.symm; have f5_ := f3_.symm; clear f1_ f2_ f3_; subst f4_; subst f5_))
      obtain ⟨Ao57, co57, eo57⟩ := Kd.S_slice HO_293001.out
      (first | subst eo57 | (injection eo57 with f1_ f2_ f3_; have f4_ := f1_.symm; have f5_ := f3_.symm; clear f1_ f2_ f3_; subst f4_; subst f5_))
      refine start_ (n := 15) (S := fun w' => CS2 w' gb291 (.slice Ao18 t279.length co18) (.slice Ao56 x292001_1.length co56) (CS2 w' gb292 (.slice Ao22 t285.length co22) (.slice Ao57 x293001_1.length co57) (CE2 w' gb299 (.slice Ao32 t293.length co32) (u300001)))) (ds := []) #[false, false, false, false, false, false, false, false, false, false, false, false, false, false, false] (by kernel_rfl) rfl rfl (hs2 BK291 (hs2 BK292 (he2 BK299))) (fun hHeld => ?_); refine with_tabW maquettelaw07_TextSame.tab10 maquettelaw07_TextSame.bits10 (fun HT_ HW_ => ?_)
      generalize wr.drew = w55 at HO_292000 HO_292001 HO_293000 HO_293001 HO_300000 HO_300001 BK276 BK277 BK291 BK292 BK299 HB hHeld ⊢
      refine tk HT_ HW_ 0 (some 32) (mk 15 1) hHeld ?_
      refine tk HT_ HW_ 1 (some 33) (mk 15 3) hHeld ?_
      refine tk HT_ HW_ 3 (some 35) (mk 15 11) hHeld ?_
      refine tk HT_ HW_ 5 (some 37) (mk 15 43) hHeld ?_
      refine on HT_ 2 (some 34) (mk 15 47) fun K hK => ?_
      refine go1 Tryd.func12 #[.agg #[.slice Ao18 t279.length co18, .slice Ao56 x292001_1.length co56], .agg #[.slice Ao22 t285.length co22, .slice Ao57 x293001_1.length co57]] ?_
      with_reducible refine (text_Same.calls k1 _ _ t279 _ _ x292001_1 _ _ t285 _ _ x293001_1 t301 _ ?side1 ?side2 ?side3 ?side4 ?side5 ?side6 ?side7 ?side8 A50.out (Go.Proofs.YtjcopneljfcfoaaDoor.Inv.ivb hInv)).mono ?_
      (case side1 => repeat (first | exact (Kd.S_reads' HO_292000.out).2.2 | (with_reducible refine Kd.C_alloc ?_ _) | (with_reducible refine Kd.C_drewN ?_ _) | (with_reducible refine Kd.C_drew ?_)))
      (case side2 => exact (Kd.S_reads' HO_292000.out).2.1)
      (case side3 => repeat (first | exact (Kd.S_reads' HO_292001.out).2.2 | (with_reducible refine Kd.C_alloc ?_ _) | (with_reducible refine Kd.C_drewN ?_ _) | (with_reducible refine Kd.C_drew ?_)))
      (case side4 => exact (Kd.S_reads' HO_292001.out).2.1)
      (case side5 => repeat (first | exact (Kd.S_reads' HO_293000.out).2.2 | (with_reducible refine Kd.C_alloc ?_ _) | (with_reducible refine Kd.C_drewN ?_ _) | (with_reducible refine Kd.C_drew ?_)))
      (case side6 => exact (Kd.S_reads' HO_293000.out).2.1)
      (case side7 => repeat (first | exact (Kd.S_reads' HO_293001.out).2.2 | (with_reducible refine Kd.C_alloc ?_ _) | (with_reducible refine Kd.C_drewN ?_ _) | (with_reducible refine Kd.C_drew ?_)))
      (case side8 => exact (Kd.S_reads' HO_293001.out).2.1)
      rintro e w58 ⟨rfl, hb⟩
      refine ⟨_, rfl, ?_⟩
      replace HO_292000 := Aside0.mk (Kd.S_below (kS HO_292000) hb)
      replace HO_292001 := Aside0.mk (Kd.S_below (kS HO_292001) hb)
      replace HO_293000 := Aside0.mk (Kd.S_below (kS HO_293000) hb)
      replace HO_293001 := Aside0.mk (Kd.S_below (kS HO_293001) hb)
      replace HO_300000 := Aside0.mk (Kd.S_below (kS HO_300000) hb)
      replace HO_300001 := Aside0.mk (Kd.S_below (kS HO_300001) hb)
      replace BK276 := bkb BK276 hb
      replace BK277 := bkb BK277 hb
      replace BK291 := bkb BK291 hb
      replace BK292 := bkb BK292 hb
      replace BK299 := bkb BK299 hb
      replace HB := bst hb
      (try clear hb)
      (try clear hb2)
      (try clear hk)
      (try clear hi)
      refine hK.out _ _ (hs2 BK291 (hs2 BK292 (he2 BK299))) (fun hHeld => ?_)
      clear hK K
      refine nm (some 34) ?_
      refine on HT_ 4 (some 36) (mk 15 63) fun K hK => ?_
      refine go1 Tryd.func11 #[.agg #[.slice Ao18 t279.length co18, .slice Ao56 x292001_1.length co56]] ?_
      with_reducible refine (maquettelaw07_Text.calls k1 _ _ t279 _ _ x292001_1 t302 _ ?side1 ?side2 ?side3 ?side4 A51.out (Go.Proofs.YtjcopneljfcfoaaDoor.Inv.ivb hInv)).mono ?_
      (case side1 => repeat (first | exact (Kd.S_reads' HO_292000.out).2.2 | (with_reducible refine Kd.C_alloc ?_ _) | (with_reducible refine Kd.C_drewN ?_ _) | (with_reducible refine Kd.C_drew ?_)))
      (case side2 => exact (Kd.S_reads' HO_292000.out).2.1)
      (case side3 => repeat (first | exact (Kd.S_reads' HO_292001.out).2.2 | (with_reducible refine Kd.C_alloc ?_ _) | (with_reducible refine Kd.C_drewN ?_ _) | (with_reducible refine Kd.C_drew ?_)))
      (case side4 => exact (Kd.S_reads' HO_292001.out).2.1)
      rintro e w59 ⟨rfl, hb⟩
      refine ⟨_, rfl, ?_⟩
      replace HO_292000 := Aside0.mk (Kd.S_below (kS HO_292000) hb)
      replace HO_292001 := Aside0.mk (Kd.S_below (kS HO_292001) hb)
      replace HO_293000 := Aside0.mk (Kd.S_below (kS HO_293000) hb)
      replace HO_293001 := Aside0.mk (Kd.S_below (kS HO_293001) hb)
      replace HO_300000 := Aside0.mk (Kd.S_below (kS HO_300000) hb)
      replace HO_300001 := Aside0.mk (Kd.S_below (kS HO_300001) hb)
      replace BK276 := bkb BK276 hb
      replace BK277 := bkb BK277 hb
      replace BK291 := bkb BK291 hb
      replace BK292 := bkb BK292 hb
      replace BK299 := bkb BK299 hb
      replace HB := bst hb
      (try clear hb)
      (try clear hb2)
      (try clear hk)
      (try clear hi)
      refine hK.out _ _ (hs2 BK291 (hs2 BK292 (he2 BK299))) (fun hHeld => ?_)
      clear hK K
      refine nm (some 36) ?_
      refine on HT_ 6 (some 38) (mk 15 127) fun K hK => ?_
      refine go1 Tryd.func11 #[.agg #[.slice Ao22 t285.length co22, .slice Ao57 x293001_1.length co57]] ?_
      with_reducible refine (maquettelaw07_Text.calls k1 _ _ t285 _ _ x293001_1 t303 _ ?side1 ?side2 ?side3 ?side4 A52.out (Go.Proofs.YtjcopneljfcfoaaDoor.Inv.ivb hInv)).mono ?_
      (case side1 => repeat (first | exact (Kd.S_reads' HO_293000.out).2.2 | (with_reducible refine Kd.C_alloc ?_ _) | (with_reducible refine Kd.C_drewN ?_ _) | (with_reducible refine Kd.C_drew ?_)))
      (case side2 => exact (Kd.S_reads' HO_293000.out).2.1)
      (case side3 => repeat (first | exact (Kd.S_reads' HO_293001.out).2.2 | (with_reducible refine Kd.C_alloc ?_ _) | (with_reducible refine Kd.C_drewN ?_ _) | (with_reducible refine Kd.C_drew ?_)))
      (case side4 => exact (Kd.S_reads' HO_293001.out).2.1)
      rintro e w60 ⟨rfl, hb⟩
      refine ⟨_, rfl, ?_⟩
      replace HO_292000 := Aside0.mk (Kd.S_below (kS HO_292000) hb)
      replace HO_292001 := Aside0.mk (Kd.S_below (kS HO_292001) hb)
      replace HO_293000 := Aside0.mk (Kd.S_below (kS HO_293000) hb)
      replace HO_293001 := Aside0.mk (Kd.S_below (kS HO_293001) hb)
      replace HO_300000 := Aside0.mk (Kd.S_below (kS HO_300000) hb)
      replace HO_300001 := Aside0.mk (Kd.S_below (kS HO_300001) hb)
      replace BK276 := bkb BK276 hb
      replace BK277 := bkb BK277 hb
      replace BK291 := bkb BK291 hb
      replace BK292 := bkb BK292 hb
      replace BK299 := bkb BK299 hb
      replace HB := bst hb
      (try clear hb)
      (try clear hb2)
      (try clear hk)
      (try clear hi)
      obtain ⟨Ao61, co61, eo61⟩ := Kd.S_slice HO_300001.out
      (first | subst eo61 | (injection eo61 with f1_ f2_ f3_; have f4_ := f1_.symm; have f5_ := f3_.symm; clear f1_ f2_ f3_; subst f4_; subst f5_))
      refine hK.out _ _ (hs2 BK291 (hs2 BK292 (he2 BK299))) (fun hHeld => ?_)
      clear hK K
      refine nm (some 38) ?_
      refine pu HT_ 7 (some 39) (mk 15 255) ?_
      refine pu HT_ 8 (some 40) (mk 15 511) ?_
      refine pu HT_ 9 (some 41) (mk 15 1023) ?_
      refine tk HT_ HW_ 10 (some 42) (mk 15 2047) hHeld ?_
      refine tk HT_ HW_ 11 (some 43) (mk 15 4095) hHeld ?_
      refine on HT_ 12 (some 44) (mk 15 8191) fun K hK => ?_
      refine go1 Tryd.func12 #[.agg #[.slice Ao18 t279.length co18, .slice Ao56 x292001_1.length co56], .agg #[.slice Ao32 t293.length co32, .slice Ao61 x300001_1.length co61]] ?_
      with_reducible refine (text_Same.calls k1 _ _ t279 _ _ x292001_1 _ _ t293 _ _ x300001_1 t304 _ ?side1 ?side2 ?side3 ?side4 ?side5 ?side6 ?side7 ?side8 A54.out (Go.Proofs.YtjcopneljfcfoaaDoor.Inv.ivb hInv)).mono ?_
      (case side1 => repeat (first | exact (Kd.S_reads' HO_292000.out).2.2 | (with_reducible refine Kd.C_alloc ?_ _) | (with_reducible refine Kd.C_drewN ?_ _) | (with_reducible refine Kd.C_drew ?_)))
      (case side2 => exact (Kd.S_reads' HO_292000.out).2.1)
      (case side3 => repeat (first | exact (Kd.S_reads' HO_292001.out).2.2 | (with_reducible refine Kd.C_alloc ?_ _) | (with_reducible refine Kd.C_drewN ?_ _) | (with_reducible refine Kd.C_drew ?_)))
      (case side4 => exact (Kd.S_reads' HO_292001.out).2.1)
      (case side5 => repeat (first | exact (Kd.S_reads' HO_300000.out).2.2 | (with_reducible refine Kd.C_alloc ?_ _) | (with_reducible refine Kd.C_drewN ?_ _) | (with_reducible refine Kd.C_drew ?_)))
      (case side6 => exact (Kd.S_reads' HO_300000.out).2.1)
      (case side7 => repeat (first | exact (Kd.S_reads' HO_300001.out).2.2 | (with_reducible refine Kd.C_alloc ?_ _) | (with_reducible refine Kd.C_drewN ?_ _) | (with_reducible refine Kd.C_drew ?_)))
      (case side8 => exact (Kd.S_reads' HO_300001.out).2.1)
      rintro e w62 ⟨rfl, hb⟩
      refine ⟨_, rfl, ?_⟩
      replace HO_292000 := Aside0.mk (Kd.S_below (kS HO_292000) hb)
      replace HO_292001 := Aside0.mk (Kd.S_below (kS HO_292001) hb)
      replace HO_293000 := Aside0.mk (Kd.S_below (kS HO_293000) hb)
      replace HO_293001 := Aside0.mk (Kd.S_below (kS HO_293001) hb)
      replace HO_300000 := Aside0.mk (Kd.S_below (kS HO_300000) hb)
      replace HO_300001 := Aside0.mk (Kd.S_below (kS HO_300001) hb)
      replace BK276 := bkb BK276 hb
      replace BK277 := bkb BK277 hb
      replace BK291 := bkb BK291 hb
      replace BK292 := bkb BK292 hb
      replace BK299 := bkb BK299 hb
      replace HB := bst hb
      (try clear hb)
      (try clear hb2)
      (try clear hk)
      (try clear hi)
      refine hK.out _ _ (hs2 BK291 (hs2 BK292 (he2 BK299))) (fun hHeld => ?_)
      clear hK K
      refine nm (some 44) ?_
      refine pu HT_ 13 (some 45) (mk 15 16383) ?_
      refine pu HT_ 14 (some 6) (mk 15 32767) ?_
      refine done_ (done_of HT_.out (by kernel_rfl)) ?_
      try go_wp2
      go_ret
      exact ⟨by first | rfl | (simp [errW_none, errW_some] <;> rfl) | (simp [*, errW_none, errW_some] <;> rfl), by repeat (first | (with_reducible first | exact HB.out | apply below_alloc | apply pw_below_drewN | apply below_drew1 | refine below_set ?_ GE276.out | refine below_set ?_ GE277.out | refine below_set ?_ GE291.out | refine below_set ?_ GE292.out | refine below_set ?_ GE299.out) | exact HB.out)⟩
     ·rw [if_neg c53] at H
      have c53b0 : (t301 == (t302.toList == t303.toList)) = false := by simpa using c53
      (try (have c53b1 : decide (t301 = (t302.toList == t303.toList)) = false := by simpa using c53))
      (try (have c53b2 : (t301 == (t302.toList == t303.toList)) = false := by simpa using c53))
      (try (have c53b3 : ¬ (t301 = (t302.toList == t303.toList)) := by simpa using c53))
      clear c53
      obtain rfl := Option.some.inj H
      try go_wp2
      replace HO_292000 := Aside0.mk (Kd.S_drew HO_292000.out)
      replace HO_292001 := Aside0.mk (Kd.S_drew HO_292001.out)
      replace HO_293000 := Aside0.mk (Kd.S_drew HO_293000.out)
      replace HO_293001 := Aside0.mk (Kd.S_drew HO_293001.out)
      replace HO_300000 := Aside0.mk (Kd.S_drew HO_300000.out)
      replace HO_300001 := Aside0.mk (Kd.S_drew HO_300001.out)
      replace BK276 := Aside0.mk (blk_drew BK276.out)
      replace BK277 := Aside0.mk (blk_drew BK277.out)
      replace BK291 := Aside0.mk (blk_drew BK291.out)
      replace BK292 := Aside0.mk (blk_drew BK292.out)
      replace BK299 := Aside0.mk (blk_drew BK299.out)
      replace HB := Aside0.mk (below_drew1 HB.out)
      obtain ⟨Ao64, co64, eo64⟩ := Kd.S_slice HO_292001.out
      (first | subst eo64 | (injection eo64 with f1_ f2_ f3_; have f4_ := f1_.symm; have f5_ := f3_.symm; clear f1_ f2_ f3_; subst f4_; subst f5_))
      obtain ⟨Ao65, co65, eo65⟩ := Kd.S_slice HO_293001.out
      (first | subst eo65 | (injection eo65 with f1_ f2_ f3_; have f4_ := f1_.symm; have f5_ := f3_.symm; clear f1_ f2_ f3_; subst f4_; subst f5_))
      refine start_ (n := 15) (S := fun w' => CS2 w' gb291 (.slice Ao18 t279.length co18) (.slice Ao64 x292001_1.length co64) (CE2 w' gb292 (.slice Ao22 t285.length co22) (.slice Ao65 x293001_1.length co65))) (ds := []) #[false, false, false, false, false, false, false, false, false, false, false, false, false, false, false] (by kernel_rfl) rfl rfl (hs2 BK291 (he2 BK292)) (fun hHeld => ?_); refine with_tabW maquettelaw07_TextSame.tab10 maquettelaw07_TextSame.bits10 (fun HT_ HW_ => ?_)
      generalize wr.drew = w63 at HO_292000 HO_292001 HO_293000 HO_293001 HO_300000 HO_300001 BK276 BK277 BK291 BK292 BK299 HB hHeld ⊢
      refine tk HT_ HW_ 0 (some 32) (mk 15 1) hHeld ?_
      refine tk HT_ HW_ 1 (some 33) (mk 15 3) hHeld ?_
      refine tk HT_ HW_ 3 (some 35) (mk 15 11) hHeld ?_
      refine tk HT_ HW_ 5 (some 37) (mk 15 43) hHeld ?_
      refine on HT_ 2 (some 34) (mk 15 47) fun K hK => ?_
      refine go1 Tryd.func12 #[.agg #[.slice Ao18 t279.length co18, .slice Ao64 x292001_1.length co64], .agg #[.slice Ao22 t285.length co22, .slice Ao65 x293001_1.length co65]] ?_
      with_reducible refine (text_Same.calls k1 _ _ t279 _ _ x292001_1 _ _ t285 _ _ x293001_1 t301 _ ?side1 ?side2 ?side3 ?side4 ?side5 ?side6 ?side7 ?side8 A50.out (Go.Proofs.YtjcopneljfcfoaaDoor.Inv.ivb hInv)).mono ?_
      (case side1 => repeat (first | exact (Kd.S_reads' HO_292000.out).2.2 | (with_reducible refine Kd.C_alloc ?_ _) | (with_reducible refine Kd.C_drewN ?_ _) | (with_reducible refine Kd.C_drew ?_)))
      (case side2 => exact (Kd.S_reads' HO_292000.out).2.1)
      (case side3 => repeat (first | exact (Kd.S_reads' HO_292001.out).2.2 | (with_reducible refine Kd.C_alloc ?_ _) | (with_reducible refine Kd.C_drewN ?_ _) | (with_reducible refine Kd.C_drew ?_)))
      (case side4 => exact (Kd.S_reads' HO_292001.out).2.1)
      (case side5 => repeat (first | exact (Kd.S_reads' HO_293000.out).2.2 | (with_reducible refine Kd.C_alloc ?_ _) | (with_reducible refine Kd.C_drewN ?_ _) | (with_reducible refine Kd.C_drew ?_)))
      (case side6 => exact (Kd.S_reads' HO_293000.out).2.1)
      (case side7 => repeat (first | exact (Kd.S_reads' HO_293001.out).2.2 | (with_reducible refine Kd.C_alloc ?_ _) | (with_reducible refine Kd.C_drewN ?_ _) | (with_reducible refine Kd.C_drew ?_)))
      (case side8 => exact (Kd.S_reads' HO_293001.out).2.1)
      rintro e w66 ⟨rfl, hb⟩
      refine ⟨_, rfl, ?_⟩
      replace HO_292000 := Aside0.mk (Kd.S_below (kS HO_292000) hb)
      replace HO_292001 := Aside0.mk (Kd.S_below (kS HO_292001) hb)
      replace HO_293000 := Aside0.mk (Kd.S_below (kS HO_293000) hb)
      replace HO_293001 := Aside0.mk (Kd.S_below (kS HO_293001) hb)
      replace HO_300000 := Aside0.mk (Kd.S_below (kS HO_300000) hb)
      replace HO_300001 := Aside0.mk (Kd.S_below (kS HO_300001) hb)
      replace BK276 := bkb BK276 hb
      replace BK277 := bkb BK277 hb
      replace BK291 := bkb BK291 hb
      replace BK292 := bkb BK292 hb
      replace BK299 := bkb BK299 hb
      replace HB := bst hb
      (try clear hb)
      (try clear hb2)
      (try clear hk)
      (try clear hi)
      refine hK.out _ _ (hs2 BK291 (he2 BK292)) (fun hHeld => ?_)
      clear hK K
      refine nm (some 34) ?_
      refine on HT_ 4 (some 36) (mk 15 63) fun K hK => ?_
      refine go1 Tryd.func11 #[.agg #[.slice Ao18 t279.length co18, .slice Ao64 x292001_1.length co64]] ?_
      with_reducible refine (maquettelaw07_Text.calls k1 _ _ t279 _ _ x292001_1 t302 _ ?side1 ?side2 ?side3 ?side4 A51.out (Go.Proofs.YtjcopneljfcfoaaDoor.Inv.ivb hInv)).mono ?_
      (case side1 => repeat (first | exact (Kd.S_reads' HO_292000.out).2.2 | (with_reducible refine Kd.C_alloc ?_ _) | (with_reducible refine Kd.C_drewN ?_ _) | (with_reducible refine Kd.C_drew ?_)))
      (case side2 => exact (Kd.S_reads' HO_292000.out).2.1)
      (case side3 => repeat (first | exact (Kd.S_reads' HO_292001.out).2.2 | (with_reducible refine Kd.C_alloc ?_ _) | (with_reducible refine Kd.C_drewN ?_ _) | (with_reducible refine Kd.C_drew ?_)))
      (case side4 => exact (Kd.S_reads' HO_292001.out).2.1)
      rintro e w67 ⟨rfl, hb⟩
      refine ⟨_, rfl, ?_⟩
      replace HO_292000 := Aside0.mk (Kd.S_below (kS HO_292000) hb)
      replace HO_292001 := Aside0.mk (Kd.S_below (kS HO_292001) hb)
      replace HO_293000 := Aside0.mk (Kd.S_below (kS HO_293000) hb)
      replace HO_293001 := Aside0.mk (Kd.S_below (kS HO_293001) hb)
      replace HO_300000 := Aside0.mk (Kd.S_below (kS HO_300000) hb)
      replace HO_300001 := Aside0.mk (Kd.S_below (kS HO_300001) hb)
      replace BK276 := bkb BK276 hb
      replace BK277 := bkb BK277 hb
      replace BK291 := bkb BK291 hb
      replace BK292 := bkb BK292 hb
      replace BK299 := bkb BK299 hb
      replace HB := bst hb
      (try clear hb)
      (try clear hb2)
      (try clear hk)
      (try clear hi)
      refine hK.out _ _ (hs2 BK291 (he2 BK292)) (fun hHeld => ?_)
      clear hK K
      refine nm (some 36) ?_
      refine on HT_ 6 (some 38) (mk 15 127) fun K hK => ?_
      refine go1 Tryd.func11 #[.agg #[.slice Ao22 t285.length co22, .slice Ao65 x293001_1.length co65]] ?_
      with_reducible refine (maquettelaw07_Text.calls k1 _ _ t285 _ _ x293001_1 t303 _ ?side1 ?side2 ?side3 ?side4 A52.out (Go.Proofs.YtjcopneljfcfoaaDoor.Inv.ivb hInv)).mono ?_
      (case side1 => repeat (first | exact (Kd.S_reads' HO_293000.out).2.2 | (with_reducible refine Kd.C_alloc ?_ _) | (with_reducible refine Kd.C_drewN ?_ _) | (with_reducible refine Kd.C_drew ?_)))
      (case side2 => exact (Kd.S_reads' HO_293000.out).2.1)
      (case side3 => repeat (first | exact (Kd.S_reads' HO_293001.out).2.2 | (with_reducible refine Kd.C_alloc ?_ _) | (with_reducible refine Kd.C_drewN ?_ _) | (with_reducible refine Kd.C_drew ?_)))
      (case side4 => exact (Kd.S_reads' HO_293001.out).2.1)
      rintro e w68 ⟨rfl, hb⟩
      refine ⟨_, rfl, ?_⟩
      replace HO_292000 := Aside0.mk (Kd.S_below (kS HO_292000) hb)
      replace HO_292001 := Aside0.mk (Kd.S_below (kS HO_292001) hb)
      replace HO_293000 := Aside0.mk (Kd.S_below (kS HO_293000) hb)
      replace HO_293001 := Aside0.mk (Kd.S_below (kS HO_293001) hb)
      replace HO_300000 := Aside0.mk (Kd.S_below (kS HO_300000) hb)
      replace HO_300001 := Aside0.mk (Kd.S_below (kS HO_300001) hb)
      replace BK276 := bkb BK276 hb
      replace BK277 := bkb BK277 hb
      replace BK291 := bkb BK291 hb
      replace BK292 := bkb BK292 hb
      replace BK299 := bkb BK299 hb
      replace HB := bst hb
      (try clear hb)
      (try clear hb2)
      (try clear hk)
      (try clear hi)
      refine hK.out _ _ (hs2 BK291 (he2 BK292)) (fun hHeld => ?_)
      clear hK K
      refine nm (some 38) ?_
      refine pu HT_ 7 (some 39) (mk 15 255) ?_
      refine pu HT_ 8 (some 40) (mk 15 511) ?_
      refine pu HT_ 9 (some 41) (mk 15 1023) ?_
      refine pun HT_ 10 (some 42) (mk 15 2047) ?_
      refine pun HT_ 11 (some 43) (mk 15 4095) ?_
      refine pun HT_ 12 (some 44) (mk 15 8191) ?_
      refine pu HT_ 13 (some 45) (mk 15 16383) ?_
      refine pu HT_ 14 (some 6) (mk 15 32767) ?_
      refine done_ (done_of HT_.out (by kernel_rfl)) ?_
      try go_wp2
      go_ret
      exact ⟨by first | rfl | (simp [errW_none, errW_some] <;> rfl) | (simp [*, errW_none, errW_some] <;> rfl), by repeat (first | (with_reducible first | exact HB.out | apply below_alloc | apply pw_below_drewN | apply below_drew1 | refine below_set ?_ GE276.out | refine below_set ?_ GE277.out | refine below_set ?_ GE291.out | refine below_set ?_ GE292.out | refine below_set ?_ GE299.out) | exact HB.out)⟩
 ·replace c5 := Bool.eq_false_iff.mpr c5
  subst c5
  have H1 : (some false) = some r := by rw [if_neg (show ¬ (false = true) by decide)] at H; exact H
  clear H
  have H := H1
  clear H1
  obtain rfl := Option.some.inj H
  go_enter Tryd.func7, Tryd.ntmps7
  go_wp2_with (first | ((with_reducible refine gate_dst (N := 3) rfl ?_); refine bx 3 (cs := #[.int .u8 a0_0, .slice A0_1 l0_1.length c0_1, .slice A0_2 l0_2.length c0_2, .slice A0_3 l0_3.length c0_3, .slice A0_4 l0_4.length c0_4, .slice A0_5 l0_5.length c0_5]) (t := 25) (h := ?_); intro gb276 hg w69 hbox hb; have BK276 := Aside0.mk hbox; have GW276 : Aside0 (w.heap.size ≤ gb276) := bge hg; have GE276 : Aside0 (w.heap.size ≤ gb276) := bge hg; replace HB := bst hb; clear hb hbox hg) | ((with_reducible refine gate_dst (N := 4) rfl ?_); refine bx 4 (cs := #[.int .u8 a1_0, .slice A1_1 l1_1.length c1_1, .slice A1_2 l1_2.length c1_2, .slice A1_3 l1_3.length c1_3, .slice A1_4 l1_4.length c1_4, .slice A1_5 l1_5.length c1_5]) (t := 25) (h := ?_); intro gb277 hg w70 hbox hb; have BK277 := Aside0.mk hbox; have GW277 : Aside0 (w.heap.size ≤ gb277) := bge hg; have GE277 : Aside0 (w.heap.size ≤ gb277) := bge hg; have NB276_277 := bne BK276 hg; have NB277_276 := bnf BK276 hg; replace BK276 := bkb BK276 hb; replace HB := bst hb; clear hb hbox hg) | ((with_reducible refine gate_dst (N := 11) rfl ?_); refine gl (some 11) Tryd.func8 #[] ?_; (with_reducible refine (maquettelaw07_awake.calls k  false _ A4.out (Go.Proofs.YtjcopneljfcfoaaDoor.Inv.ivb hInv)).mono ?_); rintro e w71 ⟨rfl, hb⟩; refine ⟨_, rfl, ?_⟩; replace BK276 := bkb BK276 hb; replace BK277 := bkb BK277 hb; replace HB := bst hb; (try clear hb); (try clear hb2); (try clear hk); (try clear hi)))
  go_ret
  exact ⟨by first | rfl | (simp [errW_none, errW_some] <;> rfl) | (simp [*, errW_none, errW_some] <;> rfl), by repeat (first | (with_reducible first | exact HB.out | apply below_alloc | apply pw_below_drewN | apply below_drew1 | refine below_set ?_ GE276.out | refine below_set ?_ GE277.out) | exact HB.out)⟩

end Go.Proofs.YtjcopneljfcfoaaDoor.PRaw
