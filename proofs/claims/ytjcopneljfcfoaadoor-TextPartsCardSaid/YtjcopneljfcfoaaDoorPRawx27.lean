-- Written by wip/xprint.py of this work: the printer of the kit, with contracts of this work beside it, shortened.
import Derived.Test.YtjcopneljfcfoaaDoorShort
import Derived.Test.YtjcopneljfcfoaaDoorPRawx0
import Derived.Test.YtjcopneljfcfoaaDoorPRawx11
import Derived.Test.YtjcopneljfcfoaaDoorPRawx12
import Derived.Test.YtjcopneljfcfoaaDoorPRawx25
namespace Go.Proofs.YtjcopneljfcfoaaDoor.PRaw
open Go.RowKit Go.Proofs.YtjcopneljfcfoaaDoor.Short Go.Proofs.YtjcopneljfcfoaaDoorW.PrintWords Go.Proofs.YtjcopneljfcfoaaDoorW.PrintLast Go.Proofs.YtjcopneljfcfoaaDoorW.PrintMore
attribute [local go_sem] max2_int min2_int max_two min_two max_three min_three max_four min_four   -- for this text's walks alone
set_option linter.unusedVariables false
set_option linter.unusedSimpArgs false

/-! ### maquettelaw07_TextParts: function 6 -/
def maquettelaw07_TextParts.f (k : Nat) (a0_0 : Int) (l0_1 : List Int) (l0_2 : List (List (S74))) (l0_3 : List Int) (l0_4 : List Int) (l0_5 : List Int) (a1_0 : Int) (l1_1 : List Int) (l1_2 : List (List (S74))) (l1_3 : List Int) (l1_4 : List Int) (l1_5 : List Int) : Option (Bool) := (maquettelaw07_awake.f k).bind fun t254 => (if t254 = true then ((maquettelaw07_Shape_Config.f k a0_0 l0_1 l0_2 l0_3 l0_4 l0_5).bind fun bt255 => ((maquettelaw07_Shape_Config.f k a1_0 l1_1 l1_2 l1_3 l1_4 l1_5).bind fun bt261 => ((text_Config.f k bt255.1 bt261.2).bind fun t269 => ((text_Config.f k bt255.1 ([] : List (S46))).bind fun t270 => ((text_Config.f k ([] : List (S36)) bt261.2).bind fun t271 => (if t270.size + t271.size ≤ 9223372036854775807 then (some (t269.toList == (t270 ++ t271).toList)) else (none))))))) else (some false))
theorem maquettelaw07_TextParts.mono : ∀ a0 a1 a2 a3 a4 a5 a6 a7 a8 a9 a10 a11 k, LeO (maquettelaw07_TextParts.f k a0 a1 a2 a3 a4 a5 a6 a7 a8 a9 a10 a11) (maquettelaw07_TextParts.f (k + 1) a0 a1 a2 a3 a4 a5 a6 a7 a8 a9 a10 a11) := by
 intro a0 a1 a2 a3 a4 a5 a6 a7 a8 a9 a10 a11 k
 unfold maquettelaw07_TextParts.f
 repeat' first
   | (with_reducible exact maquettelaw07_Shape_Config.mono _ _ _ _ _ _ _)
   | (with_reducible exact maquettelaw07_awake.mono _)
   | (with_reducible exact text_Config.mono _ _ _)
   | (with_reducible exact LeO.refl _)
   | (with_reducible exact LeO.none _)
   | (with_reducible refine LeO.ite ?_ ?_)
   | (with_reducible refine LeO.bind ?_ (fun _ => ?_))
   | exact maquettelaw07_Shape_Config.mono _ _ _ _ _ _ _
   | exact maquettelaw07_awake.mono _
   | exact text_Config.mono _ _ _
   | exact LeO.none _
   | refine LeO.ite ?_ ?_
   | refine LeO.bind ?_ (fun _ => ?_)
def maquettelaw07_TextParts.T3 : Bool × List (List Nat × List Nat) := (true, [([], []), ([0], [0]), ([], []), ([2, 1], [2]), ([], []), ([], []), ([4, 1, 3, 0, 1, 4, 5], [1, 4]), ([5, 3, 6, 0, 1, 2, 3, 4, 5, 6], [3, 5])])
def maquettelaw07_TextParts.B3 : List Nat := [0, 1, 0, 7, 0, 0, 63, 127]
theorem maquettelaw07_TextParts.tab3 : rtab .any (opsOf Tryd.f6 3) = maquettelaw07_TextParts.T3 := by kernel_rfl
theorem maquettelaw07_TextParts.bits3 : waitsOk maquettelaw07_TextParts.T3.2 maquettelaw07_TextParts.B3 = true := by kernel_rfl
def maquettelaw07_TextParts.T4 : Bool × List (List Nat × List Nat) := (true, [([], []), ([0], [0]), ([], []), ([2], [2]), ([1, 3], [1, 3]), ([4], [4]), ([], []), ([6], [6]), ([7], [7]), ([8, 5], [8]), ([], []), ([10], [10]), ([11], [11]), ([12, 9], [12]), ([9, 13], [9, 13]), ([5, 14], [5, 14]), ([15, 13, 0, 1, 2, 3, 4, 5, 6, 7, 8, 9, 10, 11, 12, 13, 14, 15], [15])])
def maquettelaw07_TextParts.B4 : List Nat := [0, 1, 0, 4, 15, 31, 0, 64, 192, 511, 0, 1024, 3072, 8191, 16383, 32767, 65535]
theorem maquettelaw07_TextParts.tab4 : rtab .any (opsOf Tryd.f6 4) = maquettelaw07_TextParts.T4 := by kernel_rfl
theorem maquettelaw07_TextParts.bits4 : waitsOk maquettelaw07_TextParts.T4.2 maquettelaw07_TextParts.B4 = true := by kernel_rfl
set_option maxHeartbeats 8000000 in
set_option maxRecDepth 100000 in
theorem maquettelaw07_TextParts.calls (k : Nat) (a0_0 : Int) (A0_1 : Option Addr) (c0_1 : Nat) (l0_1 : List Int) (A0_2 : Option Addr) (c0_2 : Nat) (l0_2 : List (List (S74))) (A0_3 : Option Addr) (c0_3 : Nat) (l0_3 : List Int) (A0_4 : Option Addr) (c0_4 : Nat) (l0_4 : List Int) (A0_5 : Option Addr) (c0_5 : Nat) (l0_5 : List Int) (a1_0 : Int) (A1_1 : Option Addr) (c1_1 : Nat) (l1_1 : List Int) (A1_2 : Option Addr) (c1_2 : Nat) (l1_2 : List (List (S74))) (A1_3 : Option Addr) (c1_3 : Nat) (l1_3 : List Int) (A1_4 : Option Addr) (c1_4 : Nat) (l1_4 : List Int) (A1_5 : Option Addr) (c1_5 : Nat) (l1_5 : List Int) (r : Bool) (w : World) (hr0_1 : Kd.C (Kd.int .u8) w A0_1 l0_1.length l0_1) (hc0_1 : l0_1.length ≤ c0_1) (hr0_2 : Kd.C (Kd.slice 74 k74) w A0_2 l0_2.length l0_2) (hc0_2 : l0_2.length ≤ c0_2) (hr0_3 : Kd.C (Kd.int .u8) w A0_3 l0_3.length l0_3) (hc0_3 : l0_3.length ≤ c0_3) (hr0_4 : Kd.C (Kd.int .u8) w A0_4 l0_4.length l0_4) (hc0_4 : l0_4.length ≤ c0_4) (hr0_5 : Kd.C (Kd.int .u8) w A0_5 l0_5.length l0_5) (hc0_5 : l0_5.length ≤ c0_5) (hr1_1 : Kd.C (Kd.int .u8) w A1_1 l1_1.length l1_1) (hc1_1 : l1_1.length ≤ c1_1) (hr1_2 : Kd.C (Kd.slice 74 k74) w A1_2 l1_2.length l1_2) (hc1_2 : l1_2.length ≤ c1_2) (hr1_3 : Kd.C (Kd.int .u8) w A1_3 l1_3.length l1_3) (hc1_3 : l1_3.length ≤ c1_3) (hr1_4 : Kd.C (Kd.int .u8) w A1_4 l1_4.length l1_4) (hc1_4 : l1_4.length ≤ c1_4) (hr1_5 : Kd.C (Kd.int .u8) w A1_5 l1_5.length l1_5) (hc1_5 : l1_5.length ≤ c1_5) (h : maquettelaw07_TextParts.f k a0_0 l0_1 l0_2 l0_3 l0_4 l0_5 a1_0 l1_1 l1_2 l1_3 l1_4 l1_5 = some r) (hInv : Go.Proofs.YtjcopneljfcfoaaDoor.Inv.Inv w) :
  Calls Tryd.prog 6 #[.agg #[.int .u8 a0_0, .slice A0_1 l0_1.length c0_1, .slice A0_2 l0_2.length c0_2, .slice A0_3 l0_3.length c0_3, .slice A0_4 l0_4.length c0_4, .slice A0_5 l0_5.length c0_5], .agg #[.int .u8 a1_0, .slice A1_1 l1_1.length c1_1, .slice A1_2 l1_2.length c1_2, .slice A1_3 l1_3.length c1_3, .slice A1_4 l1_4.length c1_4, .slice A1_5 l1_5.length c1_5]] w fun e w' => e = .returned (.bool r) ∧ Below w.heap.size w w' := by
 have hu25 := Tryd.underlying25
 have hu30 := Tryd.underlying30
 have HR0_1 := Aside0.mk hr0_1
 have HC0_1 := Aside0.mk hc0_1
 clear hr0_1 hc0_1
 have HR0_2 := Aside0.mk hr0_2
 have HC0_2 := Aside0.mk hc0_2
 clear hr0_2 hc0_2
 have HR0_3 := Aside0.mk hr0_3
 have HC0_3 := Aside0.mk hc0_3
 clear hr0_3 hc0_3
 have HR0_4 := Aside0.mk hr0_4
 have HC0_4 := Aside0.mk hc0_4
 clear hr0_4 hc0_4
 have HR0_5 := Aside0.mk hr0_5
 have HC0_5 := Aside0.mk hc0_5
 clear hr0_5 hc0_5
 have HR1_1 := Aside0.mk hr1_1
 have HC1_1 := Aside0.mk hc1_1
 clear hr1_1 hc1_1
 have HR1_2 := Aside0.mk hr1_2
 have HC1_2 := Aside0.mk hc1_2
 clear hr1_2 hc1_2
 have HR1_3 := Aside0.mk hr1_3
 have HC1_3 := Aside0.mk hc1_3
 clear hr1_3 hc1_3
 have HR1_4 := Aside0.mk hr1_4
 have HC1_4 := Aside0.mk hc1_4
 clear hr1_4 hc1_4
 have HR1_5 := Aside0.mk hr1_5
 have HC1_5 := Aside0.mk hc1_5
 clear hr1_5 hc1_5
 have HB := Aside0.mk (Below.refl w.heap.size w)
 have H : ((maquettelaw07_awake.f k).bind fun t254 => (if t254 = true then ((maquettelaw07_Shape_Config.f k a0_0 l0_1 l0_2 l0_3 l0_4 l0_5).bind fun bt255 => ((maquettelaw07_Shape_Config.f k a1_0 l1_1 l1_2 l1_3 l1_4 l1_5).bind fun bt261 => ((text_Config.f k bt255.1 bt261.2).bind fun t269 => ((text_Config.f k bt255.1 ([] : List (S46))).bind fun t270 => ((text_Config.f k ([] : List (S36)) bt261.2).bind fun t271 => (if t270.size + t271.size ≤ 9223372036854775807 then (some (t269.toList == (t270 ++ t271).toList)) else (none))))))) else (some false))) = some r := h
 clear h
 replace H := Option.bind_eq_some_iff.mp H
 obtain ⟨t254, A30, H⟩ := H
 replace H : (if t254 = true then ((maquettelaw07_Shape_Config.f k a0_0 l0_1 l0_2 l0_3 l0_4 l0_5).bind fun bt255 => ((maquettelaw07_Shape_Config.f k a1_0 l1_1 l1_2 l1_3 l1_4 l1_5).bind fun bt261 => ((text_Config.f k bt255.1 bt261.2).bind fun t269 => ((text_Config.f k bt255.1 ([] : List (S46))).bind fun t270 => ((text_Config.f k ([] : List (S36)) bt261.2).bind fun t271 => (if t270.size + t271.size ≤ 9223372036854775807 then (some (t269.toList == (t270 ++ t271).toList)) else (none))))))) else (some false)) = some r := H
 have A3 := Aside0.mk A30
 clear A30
 by_cases c4 : t254 = true
 ·subst c4
  have H1 : ((maquettelaw07_Shape_Config.f k a0_0 l0_1 l0_2 l0_3 l0_4 l0_5).bind fun bt255 => ((maquettelaw07_Shape_Config.f k a1_0 l1_1 l1_2 l1_3 l1_4 l1_5).bind fun bt261 => ((text_Config.f k bt255.1 bt261.2).bind fun t269 => ((text_Config.f k bt255.1 ([] : List (S46))).bind fun t270 => ((text_Config.f k ([] : List (S36)) bt261.2).bind fun t271 => (if t270.size + t271.size ≤ 9223372036854775807 then (some (t269.toList == (t270 ++ t271).toList)) else (none))))))) = some r := by rw [if_pos rfl] at H; exact H
  clear H
  have H := H1
  clear H1
  replace H := Option.bind_eq_some_iff.mp H
  obtain ⟨⟨t255, t258⟩, A50, H⟩ := H
  replace H : ((maquettelaw07_Shape_Config.f k a1_0 l1_1 l1_2 l1_3 l1_4 l1_5).bind fun bt261 => ((text_Config.f k t255 bt261.2).bind fun t269 => ((text_Config.f k t255 ([] : List (S46))).bind fun t270 => ((text_Config.f k ([] : List (S36)) bt261.2).bind fun t271 => (if t270.size + t271.size ≤ 9223372036854775807 then (some (t269.toList == (t270 ++ t271).toList)) else (none)))))) = some r := H
  have A5 := Aside0.mk A50
  clear A50
  replace H := Option.bind_eq_some_iff.mp H
  obtain ⟨⟨t261, t264⟩, A60, H⟩ := H
  replace H : ((text_Config.f k t255 t264).bind fun t269 => ((text_Config.f k t255 ([] : List (S46))).bind fun t270 => ((text_Config.f k ([] : List (S36)) t264).bind fun t271 => (if t270.size + t271.size ≤ 9223372036854775807 then (some (t269.toList == (t270 ++ t271).toList)) else (none))))) = some r := H
  have A6 := Aside0.mk A60
  clear A60
  replace H := Option.bind_eq_some_iff.mp H
  obtain ⟨t269, A70, H⟩ := H
  replace H : ((text_Config.f k t255 ([] : List (S46))).bind fun t270 => ((text_Config.f k ([] : List (S36)) t264).bind fun t271 => (if t270.size + t271.size ≤ 9223372036854775807 then (some (t269.toList == (t270 ++ t271).toList)) else (none)))) = some r := H
  have A7 := Aside0.mk A70
  clear A70
  replace H := Option.bind_eq_some_iff.mp H
  obtain ⟨t270, A80, H⟩ := H
  replace H : ((text_Config.f k ([] : List (S36)) t264).bind fun t271 => (if t270.size + t271.size ≤ 9223372036854775807 then (some (t269.toList == (t270 ++ t271).toList)) else (none))) = some r := H
  have A8 := Aside0.mk A80
  clear A80
  replace H := Option.bind_eq_some_iff.mp H
  obtain ⟨t271, A90, H⟩ := H
  replace H : (if t270.size + t271.size ≤ 9223372036854775807 then (some (t269.toList == (t270 ++ t271).toList)) else (none)) = some r := H
  have A9 := Aside0.mk A90
  clear A90
  by_cases c10 : t270.size + t271.size ≤ 9223372036854775807
  ·rw [if_pos c10] at H
   have c10b0 := eq_true c10
   have c10b1 := decide_eq_true c10
   try have c10b2 := eq_false (Nat.not_lt.2 c10)
   obtain rfl := Option.some.inj H
   go_enter Tryd.func6, Tryd.ntmps6
   try go_wp2_with (first | ((with_reducible refine gate_dst (N := 2) rfl ?_); refine bx 2 (cs := #[.int .u8 a0_0, .slice A0_1 l0_1.length c0_1, .slice A0_2 l0_2.length c0_2, .slice A0_3 l0_3.length c0_3, .slice A0_4 l0_4.length c0_4, .slice A0_5 l0_5.length c0_5]) (t := 25) (h := ?_); intro gb252 hg w11 hbox hb; have BK252 := Aside0.mk hbox; have GW252 : Aside0 (w.heap.size ≤ gb252) := bge hg; have GE252 : Aside0 (w.heap.size ≤ gb252) := bge hg; replace HB := bst hb; clear hb hbox hg) | ((with_reducible refine gate_dst (N := 3) rfl ?_); refine bx 3 (cs := #[.int .u8 a1_0, .slice A1_1 l1_1.length c1_1, .slice A1_2 l1_2.length c1_2, .slice A1_3 l1_3.length c1_3, .slice A1_4 l1_4.length c1_4, .slice A1_5 l1_5.length c1_5]) (t := 25) (h := ?_); intro gb253 hg w12 hbox hb; have BK253 := Aside0.mk hbox; have GW253 : Aside0 (w.heap.size ≤ gb253) := bge hg; have GE253 : Aside0 (w.heap.size ≤ gb253) := bge hg; have NB252_253 := bne BK252 hg; have NB253_252 := bnf BK252 hg; replace BK252 := bkb BK252 hb; replace HB := bst hb; clear hb hbox hg) | ((with_reducible refine gate_dst (N := 7) rfl ?_); refine gl (some 7) Tryd.func8 #[] ?_; (with_reducible refine (maquettelaw07_awake.calls k  true _ A3.out (Go.Proofs.YtjcopneljfcfoaaDoor.Inv.ivb hInv)).mono ?_); rintro e w13 ⟨rfl, hb⟩; refine ⟨_, rfl, ?_⟩; replace BK252 := bkb BK252 hb; replace BK253 := bkb BK253 hb; replace HB := bst hb; (try clear hb); (try clear hb2); (try clear hk); (try clear hi)))
   replace BK252 := Aside0.mk (blk_drew BK252.out)
   replace BK253 := Aside0.mk (blk_drew BK253.out)
   replace HB := Aside0.mk (below_drew1 HB.out)
   refine start_ (n := 8) (S := fun w' => CS6 w' gb252 (.int .u8 a0_0) (.slice A0_1 l0_1.length c0_1) (.slice A0_2 l0_2.length c0_2) (.slice A0_3 l0_3.length c0_3) (.slice A0_4 l0_4.length c0_4) (.slice A0_5 l0_5.length c0_5) (CE6 w' gb253 (.int .u8 a1_0) (.slice A1_1 l1_1.length c1_1) (.slice A1_2 l1_2.length c1_2) (.slice A1_3 l1_3.length c1_3) (.slice A1_4 l1_4.length c1_4) (.slice A1_5 l1_5.length c1_5))) (ds := []) #[false, false, false, false, false, false, false, false] (by kernel_rfl) rfl rfl (hs6 BK252 (he6 BK253)) (fun hHeld => ?_); refine with_tabW maquettelaw07_TextParts.tab3 maquettelaw07_TextParts.bits3 (fun HT_ HW_ => ?_)
   generalize w13.drew = w14 at BK252 BK253 HB hHeld ⊢
   refine tk HT_ HW_ 0 (some 9) (mk 8 1) hHeld ?_
   refine tk HT_ HW_ 2 (some 11) (mk 8 5) hHeld ?_
   refine join_ (σ := Value × Value × Value × Value × Nat × Nat) 2 #[true, true, true, true, true, true, false, false] (fun s_ => [(10, .agg #[s_.1, s_.2.1]), (12, .agg #[s_.2.2.1, s_.2.2.2.1]), (5, .pointer (some ⟨s_.2.2.2.2.1, 0, none⟩)), (6, .pointer (some ⟨s_.2.2.2.2.2, 0, none⟩))]) (fun s_ w' => (CS6 w' gb252 (.int .u8 a0_0) (.slice A0_1 l0_1.length c0_1) (.slice A0_2 l0_2.length c0_2) (.slice A0_3 l0_3.length c0_3) (.slice A0_4 l0_4.length c0_4) (.slice A0_5 l0_5.length c0_5) (CE6 w' gb253 (.int .u8 a1_0) (.slice A1_1 l1_1.length c1_1) (.slice A1_2 l1_2.length c1_2) (.slice A1_3 l1_3.length c1_3) (.slice A1_4 l1_4.length c1_4) (.slice A1_5 l1_5.length c1_5))) ∧ (Kd.S k36 36 w' w.heap.size (fun k_ => some k_ ≠ (s_.2.2.1 : Value).ownBlock) s_.1 t255) ∧ (Kd.S k46 46 w' w.heap.size (fun k_ => some k_ ≠ (s_.2.2.2.1 : Value).ownBlock) s_.2.1 t258) ∧ (Kd.S k36 36 w' w.heap.size (fun k_ => some k_ ≠ (s_.1 : Value).ownBlock) s_.2.2.1 t261) ∧ (Kd.S k46 46 w' w.heap.size (fun k_ => some k_ ≠ (s_.2.1 : Value).ownBlock) s_.2.2.2.1 t264) ∧ (w'.heap[gb252]? = some (.cells #[.int .u8 a0_0, .slice A0_1 l0_1.length c0_1, .slice A0_2 l0_2.length c0_2, .slice A0_3 l0_3.length c0_3, .slice A0_4 l0_4.length c0_4, .slice A0_5 l0_5.length c0_5] 25 (0, 0))) ∧ (w'.heap[gb253]? = some (.cells #[.int .u8 a1_0, .slice A1_1 l1_1.length c1_1, .slice A1_2 l1_2.length c1_2, .slice A1_3 l1_3.length c1_3, .slice A1_4 l1_4.length c1_4, .slice A1_5 l1_5.length c1_5] 25 (0, 0))) ∧ (w'.heap[s_.2.2.2.2.1]? = some (.cells #[.slice none 0 0, .slice none 0 0] 30 (0, 0))) ∧ (w'.heap[s_.2.2.2.2.2]? = some (.cells #[.slice none 0 0, .slice none 0 0] 30 (0, 0))) ∧ (w.heap.size ≤ s_.2.2.2.2.1) ∧ (w.heap.size ≤ s_.2.2.2.2.1) ∧ (gb252 ≠ s_.2.2.2.2.1) ∧ (s_.2.2.2.2.1 ≠ gb252) ∧ (gb253 ≠ s_.2.2.2.2.1) ∧ (s_.2.2.2.2.1 ≠ gb253) ∧ (s_.2.2.2.2.2 ≠ s_.2.2.2.2.1) ∧ (s_.2.2.2.2.1 ≠ s_.2.2.2.2.2) ∧ (w.heap.size ≤ s_.2.2.2.2.2) ∧ (w.heap.size ≤ s_.2.2.2.2.2) ∧ (gb252 ≠ s_.2.2.2.2.2) ∧ (s_.2.2.2.2.2 ≠ gb252) ∧ (gb253 ≠ s_.2.2.2.2.2) ∧ (s_.2.2.2.2.2 ≠ gb253) ∧ (Below w.heap.size w w')) ?_ ?_
   rotate_left
   ·intro hJ1_3_4_5
    refine join_ (σ := Value × Value × Value × Value × Nat) 3 #[true, true, true, true, true, false, false, false] (fun s_ => [(10, .agg #[s_.1, s_.2.1]), (12, .agg #[s_.2.2.1, s_.2.2.2.1]), (5, .pointer (some ⟨s_.2.2.2.2, 0, none⟩))]) (fun s_ w' => (CS6 w' gb252 (.int .u8 a0_0) (.slice A0_1 l0_1.length c0_1) (.slice A0_2 l0_2.length c0_2) (.slice A0_3 l0_3.length c0_3) (.slice A0_4 l0_4.length c0_4) (.slice A0_5 l0_5.length c0_5) (CE6 w' gb253 (.int .u8 a1_0) (.slice A1_1 l1_1.length c1_1) (.slice A1_2 l1_2.length c1_2) (.slice A1_3 l1_3.length c1_3) (.slice A1_4 l1_4.length c1_4) (.slice A1_5 l1_5.length c1_5))) ∧ (Kd.S k36 36 w' w.heap.size (fun k_ => some k_ ≠ (s_.2.2.1 : Value).ownBlock) s_.1 t255) ∧ (Kd.S k46 46 w' w.heap.size (fun k_ => some k_ ≠ (s_.2.2.2.1 : Value).ownBlock) s_.2.1 t258) ∧ (Kd.S k36 36 w' w.heap.size (fun k_ => some k_ ≠ (s_.1 : Value).ownBlock) s_.2.2.1 t261) ∧ (Kd.S k46 46 w' w.heap.size (fun k_ => some k_ ≠ (s_.2.1 : Value).ownBlock) s_.2.2.2.1 t264) ∧ (w'.heap[gb252]? = some (.cells #[.int .u8 a0_0, .slice A0_1 l0_1.length c0_1, .slice A0_2 l0_2.length c0_2, .slice A0_3 l0_3.length c0_3, .slice A0_4 l0_4.length c0_4, .slice A0_5 l0_5.length c0_5] 25 (0, 0))) ∧ (w'.heap[gb253]? = some (.cells #[.int .u8 a1_0, .slice A1_1 l1_1.length c1_1, .slice A1_2 l1_2.length c1_2, .slice A1_3 l1_3.length c1_3, .slice A1_4 l1_4.length c1_4, .slice A1_5 l1_5.length c1_5] 25 (0, 0))) ∧ (w'.heap[s_.2.2.2.2]? = some (.cells #[.slice none 0 0, .slice none 0 0] 30 (0, 0))) ∧ (w.heap.size ≤ s_.2.2.2.2) ∧ (w.heap.size ≤ s_.2.2.2.2) ∧ (gb252 ≠ s_.2.2.2.2) ∧ (s_.2.2.2.2 ≠ gb252) ∧ (gb253 ≠ s_.2.2.2.2) ∧ (s_.2.2.2.2 ≠ gb253) ∧ (Below w.heap.size w w')) ?_ ?_
    rotate_left
    ·intro hJ1_3_4
     refine join_ (σ := Value × Value × Value × Value × Nat) 3 #[true, true, true, true, false, true, false, false] (fun s_ => [(10, .agg #[s_.1, s_.2.1]), (12, .agg #[s_.2.2.1, s_.2.2.2.1]), (6, .pointer (some ⟨s_.2.2.2.2, 0, none⟩))]) (fun s_ w' => (CS6 w' gb252 (.int .u8 a0_0) (.slice A0_1 l0_1.length c0_1) (.slice A0_2 l0_2.length c0_2) (.slice A0_3 l0_3.length c0_3) (.slice A0_4 l0_4.length c0_4) (.slice A0_5 l0_5.length c0_5) (CE6 w' gb253 (.int .u8 a1_0) (.slice A1_1 l1_1.length c1_1) (.slice A1_2 l1_2.length c1_2) (.slice A1_3 l1_3.length c1_3) (.slice A1_4 l1_4.length c1_4) (.slice A1_5 l1_5.length c1_5))) ∧ (Kd.S k36 36 w' w.heap.size (fun k_ => some k_ ≠ (s_.2.2.1 : Value).ownBlock) s_.1 t255) ∧ (Kd.S k46 46 w' w.heap.size (fun k_ => some k_ ≠ (s_.2.2.2.1 : Value).ownBlock) s_.2.1 t258) ∧ (Kd.S k36 36 w' w.heap.size (fun k_ => some k_ ≠ (s_.1 : Value).ownBlock) s_.2.2.1 t261) ∧ (Kd.S k46 46 w' w.heap.size (fun k_ => some k_ ≠ (s_.2.1 : Value).ownBlock) s_.2.2.2.1 t264) ∧ (w'.heap[gb252]? = some (.cells #[.int .u8 a0_0, .slice A0_1 l0_1.length c0_1, .slice A0_2 l0_2.length c0_2, .slice A0_3 l0_3.length c0_3, .slice A0_4 l0_4.length c0_4, .slice A0_5 l0_5.length c0_5] 25 (0, 0))) ∧ (w'.heap[gb253]? = some (.cells #[.int .u8 a1_0, .slice A1_1 l1_1.length c1_1, .slice A1_2 l1_2.length c1_2, .slice A1_3 l1_3.length c1_3, .slice A1_4 l1_4.length c1_4, .slice A1_5 l1_5.length c1_5] 25 (0, 0))) ∧ (w'.heap[s_.2.2.2.2]? = some (.cells #[.slice none 0 0, .slice none 0 0] 30 (0, 0))) ∧ (w.heap.size ≤ s_.2.2.2.2) ∧ (w.heap.size ≤ s_.2.2.2.2) ∧ (gb252 ≠ s_.2.2.2.2) ∧ (s_.2.2.2.2 ≠ gb252) ∧ (gb253 ≠ s_.2.2.2.2) ∧ (s_.2.2.2.2 ≠ gb253) ∧ (Below w.heap.size w w')) ?_ ?_
     rotate_left
     ·intro hJ1_3_5
      refine join_ (σ := Value × Value × Nat × Nat) 3 #[true, true, true, false, true, true, false, false] (fun s_ => [(10, .agg #[s_.1, s_.2.1]), (5, .pointer (some ⟨s_.2.2.1, 0, none⟩)), (6, .pointer (some ⟨s_.2.2.2, 0, none⟩))]) (fun s_ w' => (CS6 w' gb252 (.int .u8 a0_0) (.slice A0_1 l0_1.length c0_1) (.slice A0_2 l0_2.length c0_2) (.slice A0_3 l0_3.length c0_3) (.slice A0_4 l0_4.length c0_4) (.slice A0_5 l0_5.length c0_5) (CE6 w' gb253 (.int .u8 a1_0) (.slice A1_1 l1_1.length c1_1) (.slice A1_2 l1_2.length c1_2) (.slice A1_3 l1_3.length c1_3) (.slice A1_4 l1_4.length c1_4) (.slice A1_5 l1_5.length c1_5))) ∧ (Kd.S k36 36 w' w.heap.size (fun _ => True) s_.1 t255) ∧ (Kd.S k46 46 w' w.heap.size (fun _ => True) s_.2.1 t258) ∧ (w'.heap[gb252]? = some (.cells #[.int .u8 a0_0, .slice A0_1 l0_1.length c0_1, .slice A0_2 l0_2.length c0_2, .slice A0_3 l0_3.length c0_3, .slice A0_4 l0_4.length c0_4, .slice A0_5 l0_5.length c0_5] 25 (0, 0))) ∧ (w'.heap[gb253]? = some (.cells #[.int .u8 a1_0, .slice A1_1 l1_1.length c1_1, .slice A1_2 l1_2.length c1_2, .slice A1_3 l1_3.length c1_3, .slice A1_4 l1_4.length c1_4, .slice A1_5 l1_5.length c1_5] 25 (0, 0))) ∧ (w'.heap[s_.2.2.1]? = some (.cells #[.slice none 0 0, .slice none 0 0] 30 (0, 0))) ∧ (w'.heap[s_.2.2.2]? = some (.cells #[.slice none 0 0, .slice none 0 0] 30 (0, 0))) ∧ (w.heap.size ≤ s_.2.2.1) ∧ (w.heap.size ≤ s_.2.2.1) ∧ (gb252 ≠ s_.2.2.1) ∧ (s_.2.2.1 ≠ gb252) ∧ (gb253 ≠ s_.2.2.1) ∧ (s_.2.2.1 ≠ gb253) ∧ (s_.2.2.2 ≠ s_.2.2.1) ∧ (s_.2.2.1 ≠ s_.2.2.2) ∧ (w.heap.size ≤ s_.2.2.2) ∧ (w.heap.size ≤ s_.2.2.2) ∧ (gb252 ≠ s_.2.2.2) ∧ (s_.2.2.2 ≠ gb252) ∧ (gb253 ≠ s_.2.2.2) ∧ (s_.2.2.2 ≠ gb253) ∧ (Below w.heap.size w w')) ?_ ?_
      rotate_left
      ·intro hJ1_4_5
       refine join_ (σ := Value × Value × Value × Value) 4 #[true, true, true, true, false, false, false, false] (fun s_ => [(10, .agg #[s_.1, s_.2.1]), (12, .agg #[s_.2.2.1, s_.2.2.2])]) (fun s_ w' => (CS6 w' gb252 (.int .u8 a0_0) (.slice A0_1 l0_1.length c0_1) (.slice A0_2 l0_2.length c0_2) (.slice A0_3 l0_3.length c0_3) (.slice A0_4 l0_4.length c0_4) (.slice A0_5 l0_5.length c0_5) (CE6 w' gb253 (.int .u8 a1_0) (.slice A1_1 l1_1.length c1_1) (.slice A1_2 l1_2.length c1_2) (.slice A1_3 l1_3.length c1_3) (.slice A1_4 l1_4.length c1_4) (.slice A1_5 l1_5.length c1_5))) ∧ (Kd.S k36 36 w' w.heap.size (fun k_ => some k_ ≠ (s_.2.2.1 : Value).ownBlock) s_.1 t255) ∧ (Kd.S k46 46 w' w.heap.size (fun k_ => some k_ ≠ (s_.2.2.2 : Value).ownBlock) s_.2.1 t258) ∧ (Kd.S k36 36 w' w.heap.size (fun k_ => some k_ ≠ (s_.1 : Value).ownBlock) s_.2.2.1 t261) ∧ (Kd.S k46 46 w' w.heap.size (fun k_ => some k_ ≠ (s_.2.1 : Value).ownBlock) s_.2.2.2 t264) ∧ (w'.heap[gb252]? = some (.cells #[.int .u8 a0_0, .slice A0_1 l0_1.length c0_1, .slice A0_2 l0_2.length c0_2, .slice A0_3 l0_3.length c0_3, .slice A0_4 l0_4.length c0_4, .slice A0_5 l0_5.length c0_5] 25 (0, 0))) ∧ (w'.heap[gb253]? = some (.cells #[.int .u8 a1_0, .slice A1_1 l1_1.length c1_1, .slice A1_2 l1_2.length c1_2, .slice A1_3 l1_3.length c1_3, .slice A1_4 l1_4.length c1_4, .slice A1_5 l1_5.length c1_5] 25 (0, 0))) ∧ (Below w.heap.size w w')) ?_ ?_
       rotate_left
       ·intro hJ1_3
        refine join_ (σ := Value × Value × Nat) 4 #[true, true, true, false, true, false, false, false] (fun s_ => [(10, .agg #[s_.1, s_.2.1]), (5, .pointer (some ⟨s_.2.2, 0, none⟩))]) (fun s_ w' => (CS6 w' gb252 (.int .u8 a0_0) (.slice A0_1 l0_1.length c0_1) (.slice A0_2 l0_2.length c0_2) (.slice A0_3 l0_3.length c0_3) (.slice A0_4 l0_4.length c0_4) (.slice A0_5 l0_5.length c0_5) (CE6 w' gb253 (.int .u8 a1_0) (.slice A1_1 l1_1.length c1_1) (.slice A1_2 l1_2.length c1_2) (.slice A1_3 l1_3.length c1_3) (.slice A1_4 l1_4.length c1_4) (.slice A1_5 l1_5.length c1_5))) ∧ (Kd.S k36 36 w' w.heap.size (fun _ => True) s_.1 t255) ∧ (Kd.S k46 46 w' w.heap.size (fun _ => True) s_.2.1 t258) ∧ (w'.heap[gb252]? = some (.cells #[.int .u8 a0_0, .slice A0_1 l0_1.length c0_1, .slice A0_2 l0_2.length c0_2, .slice A0_3 l0_3.length c0_3, .slice A0_4 l0_4.length c0_4, .slice A0_5 l0_5.length c0_5] 25 (0, 0))) ∧ (w'.heap[gb253]? = some (.cells #[.int .u8 a1_0, .slice A1_1 l1_1.length c1_1, .slice A1_2 l1_2.length c1_2, .slice A1_3 l1_3.length c1_3, .slice A1_4 l1_4.length c1_4, .slice A1_5 l1_5.length c1_5] 25 (0, 0))) ∧ (w'.heap[s_.2.2]? = some (.cells #[.slice none 0 0, .slice none 0 0] 30 (0, 0))) ∧ (w.heap.size ≤ s_.2.2) ∧ (w.heap.size ≤ s_.2.2) ∧ (gb252 ≠ s_.2.2) ∧ (s_.2.2 ≠ gb252) ∧ (gb253 ≠ s_.2.2) ∧ (s_.2.2 ≠ gb253) ∧ (Below w.heap.size w w')) ?_ ?_
        rotate_left
        ·intro hJ1_4
         refine join_ (σ := Value × Value × Nat) 4 #[true, true, true, false, false, true, false, false] (fun s_ => [(10, .agg #[s_.1, s_.2.1]), (6, .pointer (some ⟨s_.2.2, 0, none⟩))]) (fun s_ w' => (CS6 w' gb252 (.int .u8 a0_0) (.slice A0_1 l0_1.length c0_1) (.slice A0_2 l0_2.length c0_2) (.slice A0_3 l0_3.length c0_3) (.slice A0_4 l0_4.length c0_4) (.slice A0_5 l0_5.length c0_5) (CE6 w' gb253 (.int .u8 a1_0) (.slice A1_1 l1_1.length c1_1) (.slice A1_2 l1_2.length c1_2) (.slice A1_3 l1_3.length c1_3) (.slice A1_4 l1_4.length c1_4) (.slice A1_5 l1_5.length c1_5))) ∧ (Kd.S k36 36 w' w.heap.size (fun _ => True) s_.1 t255) ∧ (Kd.S k46 46 w' w.heap.size (fun _ => True) s_.2.1 t258) ∧ (w'.heap[gb252]? = some (.cells #[.int .u8 a0_0, .slice A0_1 l0_1.length c0_1, .slice A0_2 l0_2.length c0_2, .slice A0_3 l0_3.length c0_3, .slice A0_4 l0_4.length c0_4, .slice A0_5 l0_5.length c0_5] 25 (0, 0))) ∧ (w'.heap[gb253]? = some (.cells #[.int .u8 a1_0, .slice A1_1 l1_1.length c1_1, .slice A1_2 l1_2.length c1_2, .slice A1_3 l1_3.length c1_3, .slice A1_4 l1_4.length c1_4, .slice A1_5 l1_5.length c1_5] 25 (0, 0))) ∧ (w'.heap[s_.2.2]? = some (.cells #[.slice none 0 0, .slice none 0 0] 30 (0, 0))) ∧ (w.heap.size ≤ s_.2.2) ∧ (w.heap.size ≤ s_.2.2) ∧ (gb252 ≠ s_.2.2) ∧ (s_.2.2 ≠ gb252) ∧ (gb253 ≠ s_.2.2) ∧ (s_.2.2 ≠ gb253) ∧ (Below w.heap.size w w')) ?_ ?_
         rotate_left
         ·intro hJ1_5
          refine join_ (σ := Nat × Nat) 4 #[true, false, true, false, true, true, false, false] (fun s_ => [(5, .pointer (some ⟨s_.1, 0, none⟩)), (6, .pointer (some ⟨s_.2, 0, none⟩))]) (fun s_ w' => (CS6 w' gb252 (.int .u8 a0_0) (.slice A0_1 l0_1.length c0_1) (.slice A0_2 l0_2.length c0_2) (.slice A0_3 l0_3.length c0_3) (.slice A0_4 l0_4.length c0_4) (.slice A0_5 l0_5.length c0_5) (CE6 w' gb253 (.int .u8 a1_0) (.slice A1_1 l1_1.length c1_1) (.slice A1_2 l1_2.length c1_2) (.slice A1_3 l1_3.length c1_3) (.slice A1_4 l1_4.length c1_4) (.slice A1_5 l1_5.length c1_5))) ∧ (w'.heap[gb252]? = some (.cells #[.int .u8 a0_0, .slice A0_1 l0_1.length c0_1, .slice A0_2 l0_2.length c0_2, .slice A0_3 l0_3.length c0_3, .slice A0_4 l0_4.length c0_4, .slice A0_5 l0_5.length c0_5] 25 (0, 0))) ∧ (w'.heap[gb253]? = some (.cells #[.int .u8 a1_0, .slice A1_1 l1_1.length c1_1, .slice A1_2 l1_2.length c1_2, .slice A1_3 l1_3.length c1_3, .slice A1_4 l1_4.length c1_4, .slice A1_5 l1_5.length c1_5] 25 (0, 0))) ∧ (w'.heap[s_.1]? = some (.cells #[.slice none 0 0, .slice none 0 0] 30 (0, 0))) ∧ (w'.heap[s_.2]? = some (.cells #[.slice none 0 0, .slice none 0 0] 30 (0, 0))) ∧ (w.heap.size ≤ s_.1) ∧ (w.heap.size ≤ s_.1) ∧ (gb252 ≠ s_.1) ∧ (s_.1 ≠ gb252) ∧ (gb253 ≠ s_.1) ∧ (s_.1 ≠ gb253) ∧ (s_.2 ≠ s_.1) ∧ (s_.1 ≠ s_.2) ∧ (w.heap.size ≤ s_.2) ∧ (w.heap.size ≤ s_.2) ∧ (gb252 ≠ s_.2) ∧ (s_.2 ≠ gb252) ∧ (gb253 ≠ s_.2) ∧ (s_.2 ≠ gb253) ∧ (Below w.heap.size w w')) ?_ ?_
          rotate_left
          ·intro hJ4_5
           refine join_ (σ := Value × Value) 5 #[true, true, true, false, false, false, false, false] (fun s_ => [(10, .agg #[s_.1, s_.2])]) (fun s_ w' => (CS6 w' gb252 (.int .u8 a0_0) (.slice A0_1 l0_1.length c0_1) (.slice A0_2 l0_2.length c0_2) (.slice A0_3 l0_3.length c0_3) (.slice A0_4 l0_4.length c0_4) (.slice A0_5 l0_5.length c0_5) (CE6 w' gb253 (.int .u8 a1_0) (.slice A1_1 l1_1.length c1_1) (.slice A1_2 l1_2.length c1_2) (.slice A1_3 l1_3.length c1_3) (.slice A1_4 l1_4.length c1_4) (.slice A1_5 l1_5.length c1_5))) ∧ (Kd.S k36 36 w' w.heap.size (fun _ => True) s_.1 t255) ∧ (Kd.S k46 46 w' w.heap.size (fun _ => True) s_.2 t258) ∧ (w'.heap[gb252]? = some (.cells #[.int .u8 a0_0, .slice A0_1 l0_1.length c0_1, .slice A0_2 l0_2.length c0_2, .slice A0_3 l0_3.length c0_3, .slice A0_4 l0_4.length c0_4, .slice A0_5 l0_5.length c0_5] 25 (0, 0))) ∧ (w'.heap[gb253]? = some (.cells #[.int .u8 a1_0, .slice A1_1 l1_1.length c1_1, .slice A1_2 l1_2.length c1_2, .slice A1_3 l1_3.length c1_3, .slice A1_4 l1_4.length c1_4, .slice A1_5 l1_5.length c1_5] 25 (0, 0))) ∧ (Below w.heap.size w w')) ?_ ?_
           rotate_left
           ·intro hJ1
            refine join_ (σ := Nat) 5 #[true, false, true, false, true, false, false, false] (fun s_ => [(5, .pointer (some ⟨s_, 0, none⟩))]) (fun s_ w' => (CS6 w' gb252 (.int .u8 a0_0) (.slice A0_1 l0_1.length c0_1) (.slice A0_2 l0_2.length c0_2) (.slice A0_3 l0_3.length c0_3) (.slice A0_4 l0_4.length c0_4) (.slice A0_5 l0_5.length c0_5) (CE6 w' gb253 (.int .u8 a1_0) (.slice A1_1 l1_1.length c1_1) (.slice A1_2 l1_2.length c1_2) (.slice A1_3 l1_3.length c1_3) (.slice A1_4 l1_4.length c1_4) (.slice A1_5 l1_5.length c1_5))) ∧ (w'.heap[gb252]? = some (.cells #[.int .u8 a0_0, .slice A0_1 l0_1.length c0_1, .slice A0_2 l0_2.length c0_2, .slice A0_3 l0_3.length c0_3, .slice A0_4 l0_4.length c0_4, .slice A0_5 l0_5.length c0_5] 25 (0, 0))) ∧ (w'.heap[gb253]? = some (.cells #[.int .u8 a1_0, .slice A1_1 l1_1.length c1_1, .slice A1_2 l1_2.length c1_2, .slice A1_3 l1_3.length c1_3, .slice A1_4 l1_4.length c1_4, .slice A1_5 l1_5.length c1_5] 25 (0, 0))) ∧ (w'.heap[s_]? = some (.cells #[.slice none 0 0, .slice none 0 0] 30 (0, 0))) ∧ (w.heap.size ≤ s_) ∧ (w.heap.size ≤ s_) ∧ (gb252 ≠ s_) ∧ (s_ ≠ gb252) ∧ (gb253 ≠ s_) ∧ (s_ ≠ gb253) ∧ (Below w.heap.size w w')) ?_ ?_
            rotate_left
            ·intro hJ4
             refine join_ (σ := Nat) 5 #[true, false, true, false, false, true, false, false] (fun s_ => [(6, .pointer (some ⟨s_, 0, none⟩))]) (fun s_ w' => (CS6 w' gb252 (.int .u8 a0_0) (.slice A0_1 l0_1.length c0_1) (.slice A0_2 l0_2.length c0_2) (.slice A0_3 l0_3.length c0_3) (.slice A0_4 l0_4.length c0_4) (.slice A0_5 l0_5.length c0_5) (CE6 w' gb253 (.int .u8 a1_0) (.slice A1_1 l1_1.length c1_1) (.slice A1_2 l1_2.length c1_2) (.slice A1_3 l1_3.length c1_3) (.slice A1_4 l1_4.length c1_4) (.slice A1_5 l1_5.length c1_5))) ∧ (w'.heap[gb252]? = some (.cells #[.int .u8 a0_0, .slice A0_1 l0_1.length c0_1, .slice A0_2 l0_2.length c0_2, .slice A0_3 l0_3.length c0_3, .slice A0_4 l0_4.length c0_4, .slice A0_5 l0_5.length c0_5] 25 (0, 0))) ∧ (w'.heap[gb253]? = some (.cells #[.int .u8 a1_0, .slice A1_1 l1_1.length c1_1, .slice A1_2 l1_2.length c1_2, .slice A1_3 l1_3.length c1_3, .slice A1_4 l1_4.length c1_4, .slice A1_5 l1_5.length c1_5] 25 (0, 0))) ∧ (w'.heap[s_]? = some (.cells #[.slice none 0 0, .slice none 0 0] 30 (0, 0))) ∧ (w.heap.size ≤ s_) ∧ (w.heap.size ≤ s_) ∧ (gb252 ≠ s_) ∧ (s_ ≠ gb252) ∧ (gb253 ≠ s_) ∧ (s_ ≠ gb253) ∧ (Below w.heap.size w w')) ?_ ?_
             rotate_left
             ·intro hJ5
              refine three_ (i := 1) (j := 4) (k := 5) (Ni := some 10) (Nj := some 5) (Nk := some 6) #[true, true, true, false, false, false, false, false] #[true, false, true, false, true, false, false, false] #[true, false, true, false, false, true, false, false] rfl rfl rfl rfl rfl rfl (three_of HT_.out (by kernel_rfl)) (by decide) (by decide) (by decide) (fun K hK => ?_) (fun K hK => ?_) (fun K hK => ?_)
              ·skip
               refine go1 Tryd.func9 #[.agg #[.int .u8 a0_0, .slice A0_1 l0_1.length c0_1, .slice A0_2 l0_2.length c0_2, .slice A0_3 l0_3.length c0_3, .slice A0_4 l0_4.length c0_4, .slice A0_5 l0_5.length c0_5]] ?_
               with_reducible refine (maquettelaw07_Shape_Config.calls k a0_0 _ _ l0_1 _ _ l0_2 _ _ l0_3 _ _ l0_4 _ _ l0_5 t255 t258 _ ?side1 ?side2 ?side3 ?side4 ?side5 ?side6 ?side7 ?side8 ?side9 ?side10 A5.out).mono ?_
               (case side1 => exact kcb HR0_1)
               (case side2 => exact HC0_1.out)
               (case side3 => exact kcb HR0_2)
               (case side4 => exact HC0_2.out)
               (case side5 => exact kcb HR0_3)
               (case side6 => exact HC0_3.out)
               (case side7 => exact kcb HR0_4)
               (case side8 => exact HC0_4.out)
               (case side9 => exact kcb HR0_5)
               (case side10 => exact HC0_5.out)
               rintro e w15 ⟨v256, v259, rfl, ho0, ho1, hb⟩
               refine ⟨_, rfl, ?_⟩
               have HO257 := Aside0.mk (Kd.S_lower ho0 (below_size bel))
               have HO260 := Aside0.mk (Kd.S_lower ho1 (below_size bel))
               replace BK252 := bkb BK252 hb
               replace BK253 := bkb BK253 hb
               replace HB := bst hb
               (try clear hb)
               (try clear hb2)
               (try clear hk)
               (try clear hi)
               (try clear ho0)
               (try clear ho1)
               refine hK.out _ _ (hs6 BK252 (he6 BK253)) (fun hHeld => ?_)
               clear hK K
               refine nm (some 10) ?_
               exact nj (hJ1 (v256, v259) _ ⟨hHeld, (kS HO257), (kS HO260), (bkq BK252), (bkq BK253), bel⟩)
              ·skip
               refine box_step ?hg (N := 5) ?hd (cs := #[.slice none 0 0, .slice none 0 0]) (t := 30) ?hr ?_; (case hd => rfl); (case hg => rfl); (case hr => first | (go_simp; done) | (go_simp; rfl))
               intro gb267 hg w15 hbox hb
               have BK267 := Aside0.mk hbox
               have GW267 : Aside0 (w.heap.size ≤ gb267) := bge hg
               have GE267 : Aside0 (w.heap.size ≤ gb267) := bge hg
               have NB252_267 := bne BK252 hg
               have NB267_252 := bnf BK252 hg
               have NB253_267 := bne BK253 hg
               have NB267_253 := bnf BK253 hg
               replace BK252 := bkb BK252 hb
               replace BK253 := bkb BK253 hb
               replace HB := bst hb
               clear hb hbox hg
               refine hK.out _ _ (hs6 BK252 (he6 BK253)) (fun hHeld => ?_)
               clear hK K
               refine nm (some 5) ?_
               exact nj (hJ4 (gb267) _ ⟨hHeld, (bkq BK252), (bkq BK253), (bkq BK267), GW267.out, GE267.out, NB252_267.out, NB267_252.out, NB253_267.out, NB267_253.out, bel⟩)
              ·skip
               refine box_step ?hg (N := 6) ?hd (cs := #[.slice none 0 0, .slice none 0 0]) (t := 30) ?hr ?_; (case hd => rfl); (case hg => rfl); (case hr => first | (go_simp; done) | (go_simp; rfl))
               intro gb268 hg w15 hbox hb
               have BK268 := Aside0.mk hbox
               have GW268 : Aside0 (w.heap.size ≤ gb268) := bge hg
               have GE268 : Aside0 (w.heap.size ≤ gb268) := bge hg
               have NB252_268 := bne BK252 hg
               have NB268_252 := bnf BK252 hg
               have NB253_268 := bne BK253 hg
               have NB268_253 := bnf BK253 hg
               replace BK252 := bkb BK252 hb
               replace BK253 := bkb BK253 hb
               replace HB := bst hb
               clear hb hbox hg
               refine hK.out _ _ (hs6 BK252 (he6 BK253)) (fun hHeld => ?_)
               clear hK K
               refine nm (some 6) ?_
               exact nj (hJ5 (gb268) _ ⟨hHeld, (bkq BK252), (bkq BK253), (bkq BK268), GW268.out, GE268.out, NB252_268.out, NB268_252.out, NB253_268.out, NB268_253.out, bel⟩)
             ·skip
              rintro gb268 w16 ⟨hS_, h0_, h1_, h2_, h3_, h4_, h5_, h6_, h7_, h8_, h9_⟩
              have BK268 : Aside0 (w16.heap[gb268]? = some (.cells #[.slice none 0 0, .slice none 0 0] 30 (0, 0))) := ⟨h2_⟩
              have GW268 : Aside0 (w.heap.size ≤ gb268) := ⟨h3_⟩
              have GE268 : Aside0 (w.heap.size ≤ gb268) := ⟨h4_⟩
              have NB252_268 : Aside0 (gb252 ≠ gb268) := ⟨h5_⟩
              have NB268_252 : Aside0 (gb268 ≠ gb252) := ⟨h6_⟩
              have NB253_268 : Aside0 (gb253 ≠ gb268) := ⟨h7_⟩
              have NB268_253 : Aside0 (gb268 ≠ gb253) := ⟨h8_⟩
              replace BK252 : Aside0 (w16.heap[gb252]? = some (.cells #[.int .u8 a0_0, .slice A0_1 l0_1.length c0_1, .slice A0_2 l0_2.length c0_2, .slice A0_3 l0_3.length c0_3, .slice A0_4 l0_4.length c0_4, .slice A0_5 l0_5.length c0_5] 25 (0, 0))) := ⟨h0_⟩
              replace BK253 : Aside0 (w16.heap[gb253]? = some (.cells #[.int .u8 a1_0, .slice A1_1 l1_1.length c1_1, .slice A1_2 l1_2.length c1_2, .slice A1_3 l1_3.length c1_3, .slice A1_4 l1_4.length c1_4, .slice A1_5 l1_5.length c1_5] 25 (0, 0))) := ⟨h1_⟩
              replace HB : Aside0 (Below w.heap.size w w16) := ⟨h9_⟩
              clear h0_ h1_ h2_ h3_ h4_ h5_ h6_ h7_ h8_ h9_
              have hHeld : CS6 w16 gb252 (.int .u8 a0_0) (.slice A0_1 l0_1.length c0_1) (.slice A0_2 l0_2.length c0_2) (.slice A0_3 l0_3.length c0_3) (.slice A0_4 l0_4.length c0_4) (.slice A0_5 l0_5.length c0_5) (CE6 w16 gb253 (.int .u8 a1_0) (.slice A1_1 l1_1.length c1_1) (.slice A1_2 l1_2.length c1_2) (.slice A1_3 l1_3.length c1_3) (.slice A1_4 l1_4.length c1_4) (.slice A1_5 l1_5.length c1_5)) := hS_
              refine norm_ (a' := ?_) ?_ ?_
              rotate_left
              ·simp only [putAll, Act.put, List.setIfInBounds_toArray, List.set_cons_zero, List.set_cons_succ]
               rfl
              refine two_ (i := 1) (j := 4) (Ni := some 10) (Nj := some 5) #[true, true, true, false, false, true, false, false] #[true, false, true, false, true, true, false, false] rfl rfl rfl rfl (two_of HT_.out (by kernel_rfl)) (by decide) (by decide) (fun K hK => ?_) (fun K hK => ?_)
              ·skip
               refine go1 Tryd.func9 #[.agg #[.int .u8 a0_0, .slice A0_1 l0_1.length c0_1, .slice A0_2 l0_2.length c0_2, .slice A0_3 l0_3.length c0_3, .slice A0_4 l0_4.length c0_4, .slice A0_5 l0_5.length c0_5]] ?_
               with_reducible refine (maquettelaw07_Shape_Config.calls k a0_0 _ _ l0_1 _ _ l0_2 _ _ l0_3 _ _ l0_4 _ _ l0_5 t255 t258 _ ?side1 ?side2 ?side3 ?side4 ?side5 ?side6 ?side7 ?side8 ?side9 ?side10 A5.out).mono ?_
               (case side1 => exact kcb HR0_1)
               (case side2 => exact HC0_1.out)
               (case side3 => exact kcb HR0_2)
               (case side4 => exact HC0_2.out)
               (case side5 => exact kcb HR0_3)
               (case side6 => exact HC0_3.out)
               (case side7 => exact kcb HR0_4)
               (case side8 => exact HC0_4.out)
               (case side9 => exact kcb HR0_5)
               (case side10 => exact HC0_5.out)
               rintro e w17 ⟨v256, v259, rfl, ho0, ho1, hb⟩
               refine ⟨_, rfl, ?_⟩
               have HO257 := Aside0.mk (Kd.S_lower ho0 (below_size bel))
               have HO260 := Aside0.mk (Kd.S_lower ho1 (below_size bel))
               replace BK252 := bkb BK252 hb
               replace BK253 := bkb BK253 hb
               replace BK268 := bkb BK268 hb
               replace HB := bst hb
               (try clear hb)
               (try clear hb2)
               (try clear hk)
               (try clear hi)
               (try clear ho0)
               (try clear ho1)
               refine hK.out _ _ (hs6 BK252 (he6 BK253)) (fun hHeld => ?_)
               clear hK K
               refine nm (some 10) ?_
               exact nj (hJ1_5 (v256, v259, gb268) _ ⟨hHeld, (kS HO257), (kS HO260), (bkq BK252), (bkq BK253), (bkq BK268), GW268.out, GE268.out, NB252_268.out, NB268_252.out, NB253_268.out, NB268_253.out, bel⟩)
              ·skip
               refine box_step ?hg (N := 5) ?hd (cs := #[.slice none 0 0, .slice none 0 0]) (t := 30) ?hr ?_; (case hd => rfl); (case hg => rfl); (case hr => first | (go_simp; done) | (go_simp; rfl))
               intro gb267 hg w17 hbox hb
               have BK267 := Aside0.mk hbox
               have GW267 : Aside0 (w.heap.size ≤ gb267) := bge hg
               have GE267 : Aside0 (w.heap.size ≤ gb267) := bge hg
               have NB252_267 := bne BK252 hg
               have NB267_252 := bnf BK252 hg
               have NB253_267 := bne BK253 hg
               have NB267_253 := bnf BK253 hg
               have NB268_267 := bne BK268 hg
               have NB267_268 := bnf BK268 hg
               replace BK252 := bkb BK252 hb
               replace BK253 := bkb BK253 hb
               replace BK268 := bkb BK268 hb
               replace HB := bst hb
               clear hb hbox hg
               refine hK.out _ _ (hs6 BK252 (he6 BK253)) (fun hHeld => ?_)
               clear hK K
               refine nm (some 5) ?_
               exact nj (hJ4_5 (gb267, gb268) _ ⟨hHeld, (bkq BK252), (bkq BK253), (bkq BK267), (bkq BK268), GW267.out, GE267.out, NB252_267.out, NB267_252.out, NB253_267.out, NB267_253.out, NB268_267.out, NB267_268.out, GW268.out, GE268.out, NB252_268.out, NB268_252.out, NB253_268.out, NB268_253.out, bel⟩)
            ·skip
             rintro gb267 w16 ⟨hS_, h0_, h1_, h2_, h3_, h4_, h5_, h6_, h7_, h8_, h9_⟩
             have BK267 : Aside0 (w16.heap[gb267]? = some (.cells #[.slice none 0 0, .slice none 0 0] 30 (0, 0))) := ⟨h2_⟩
             have GW267 : Aside0 (w.heap.size ≤ gb267) := ⟨h3_⟩
             have GE267 : Aside0 (w.heap.size ≤ gb267) := ⟨h4_⟩
             have NB252_267 : Aside0 (gb252 ≠ gb267) := ⟨h5_⟩
             have NB267_252 : Aside0 (gb267 ≠ gb252) := ⟨h6_⟩
             have NB253_267 : Aside0 (gb253 ≠ gb267) := ⟨h7_⟩
             have NB267_253 : Aside0 (gb267 ≠ gb253) := ⟨h8_⟩
             replace BK252 : Aside0 (w16.heap[gb252]? = some (.cells #[.int .u8 a0_0, .slice A0_1 l0_1.length c0_1, .slice A0_2 l0_2.length c0_2, .slice A0_3 l0_3.length c0_3, .slice A0_4 l0_4.length c0_4, .slice A0_5 l0_5.length c0_5] 25 (0, 0))) := ⟨h0_⟩
             replace BK253 : Aside0 (w16.heap[gb253]? = some (.cells #[.int .u8 a1_0, .slice A1_1 l1_1.length c1_1, .slice A1_2 l1_2.length c1_2, .slice A1_3 l1_3.length c1_3, .slice A1_4 l1_4.length c1_4, .slice A1_5 l1_5.length c1_5] 25 (0, 0))) := ⟨h1_⟩
             replace HB : Aside0 (Below w.heap.size w w16) := ⟨h9_⟩
             clear h0_ h1_ h2_ h3_ h4_ h5_ h6_ h7_ h8_ h9_
             have hHeld : CS6 w16 gb252 (.int .u8 a0_0) (.slice A0_1 l0_1.length c0_1) (.slice A0_2 l0_2.length c0_2) (.slice A0_3 l0_3.length c0_3) (.slice A0_4 l0_4.length c0_4) (.slice A0_5 l0_5.length c0_5) (CE6 w16 gb253 (.int .u8 a1_0) (.slice A1_1 l1_1.length c1_1) (.slice A1_2 l1_2.length c1_2) (.slice A1_3 l1_3.length c1_3) (.slice A1_4 l1_4.length c1_4) (.slice A1_5 l1_5.length c1_5)) := hS_
             refine norm_ (a' := ?_) ?_ ?_
             rotate_left
             ·simp only [putAll, Act.put, List.setIfInBounds_toArray, List.set_cons_zero, List.set_cons_succ]
              rfl
             refine two_ (i := 1) (j := 5) (Ni := some 10) (Nj := some 6) #[true, true, true, false, true, false, false, false] #[true, false, true, false, true, true, false, false] rfl rfl rfl rfl (two_of HT_.out (by kernel_rfl)) (by decide) (by decide) (fun K hK => ?_) (fun K hK => ?_)
             ·skip
              refine go1 Tryd.func9 #[.agg #[.int .u8 a0_0, .slice A0_1 l0_1.length c0_1, .slice A0_2 l0_2.length c0_2, .slice A0_3 l0_3.length c0_3, .slice A0_4 l0_4.length c0_4, .slice A0_5 l0_5.length c0_5]] ?_
              with_reducible refine (maquettelaw07_Shape_Config.calls k a0_0 _ _ l0_1 _ _ l0_2 _ _ l0_3 _ _ l0_4 _ _ l0_5 t255 t258 _ ?side1 ?side2 ?side3 ?side4 ?side5 ?side6 ?side7 ?side8 ?side9 ?side10 A5.out).mono ?_
              (case side1 => exact kcb HR0_1)
              (case side2 => exact HC0_1.out)
              (case side3 => exact kcb HR0_2)
              (case side4 => exact HC0_2.out)
              (case side5 => exact kcb HR0_3)
              (case side6 => exact HC0_3.out)
              (case side7 => exact kcb HR0_4)
              (case side8 => exact HC0_4.out)
              (case side9 => exact kcb HR0_5)
              (case side10 => exact HC0_5.out)
              rintro e w17 ⟨v256, v259, rfl, ho0, ho1, hb⟩
              refine ⟨_, rfl, ?_⟩
              have HO257 := Aside0.mk (Kd.S_lower ho0 (below_size bel))
              have HO260 := Aside0.mk (Kd.S_lower ho1 (below_size bel))
              replace BK252 := bkb BK252 hb
              replace BK253 := bkb BK253 hb
              replace BK267 := bkb BK267 hb
              replace HB := bst hb
              (try clear hb)
              (try clear hb2)
              (try clear hk)
              (try clear hi)
              (try clear ho0)
              (try clear ho1)
              refine hK.out _ _ (hs6 BK252 (he6 BK253)) (fun hHeld => ?_)
              clear hK K
              refine nm (some 10) ?_
              exact nj (hJ1_4 (v256, v259, gb267) _ ⟨hHeld, (kS HO257), (kS HO260), (bkq BK252), (bkq BK253), (bkq BK267), GW267.out, GE267.out, NB252_267.out, NB267_252.out, NB253_267.out, NB267_253.out, bel⟩)
             ·skip
              refine box_step ?hg (N := 6) ?hd (cs := #[.slice none 0 0, .slice none 0 0]) (t := 30) ?hr ?_; (case hd => rfl); (case hg => rfl); (case hr => first | (go_simp; done) | (go_simp; rfl))
              intro gb268 hg w17 hbox hb
              have BK268 := Aside0.mk hbox
              have GW268 : Aside0 (w.heap.size ≤ gb268) := bge hg
              have GE268 : Aside0 (w.heap.size ≤ gb268) := bge hg
              have NB252_268 := bne BK252 hg
              have NB268_252 := bnf BK252 hg
              have NB253_268 := bne BK253 hg
              have NB268_253 := bnf BK253 hg
              have NB267_268 := bne BK267 hg
              have NB268_267 := bnf BK267 hg
              replace BK252 := bkb BK252 hb
              replace BK253 := bkb BK253 hb
              replace BK267 := bkb BK267 hb
              replace HB := bst hb
              clear hb hbox hg
              refine hK.out _ _ (hs6 BK252 (he6 BK253)) (fun hHeld => ?_)
              clear hK K
              refine nm (some 6) ?_
              exact nj (hJ4_5 (gb267, gb268) _ ⟨hHeld, (bkq BK252), (bkq BK253), (bkq BK267), (bkq BK268), GW267.out, GE267.out, NB252_267.out, NB267_252.out, NB253_267.out, NB267_253.out, NB268_267.out, NB267_268.out, GW268.out, GE268.out, NB252_268.out, NB268_252.out, NB253_268.out, NB268_253.out, bel⟩)
           ·skip
            rintro ⟨v256, v259⟩ w16 ⟨hS_, h0_, h1_, h2_, h3_, h4_⟩
            have HO257 : Aside0 (Kd.S k36 36 w16 w.heap.size (fun _ => True) v256 t255) := ⟨h0_⟩
            have HO260 : Aside0 (Kd.S k46 46 w16 w.heap.size (fun _ => True) v259 t258) := ⟨h1_⟩
            replace BK252 : Aside0 (w16.heap[gb252]? = some (.cells #[.int .u8 a0_0, .slice A0_1 l0_1.length c0_1, .slice A0_2 l0_2.length c0_2, .slice A0_3 l0_3.length c0_3, .slice A0_4 l0_4.length c0_4, .slice A0_5 l0_5.length c0_5] 25 (0, 0))) := ⟨h2_⟩
            replace BK253 : Aside0 (w16.heap[gb253]? = some (.cells #[.int .u8 a1_0, .slice A1_1 l1_1.length c1_1, .slice A1_2 l1_2.length c1_2, .slice A1_3 l1_3.length c1_3, .slice A1_4 l1_4.length c1_4, .slice A1_5 l1_5.length c1_5] 25 (0, 0))) := ⟨h3_⟩
            replace HB : Aside0 (Below w.heap.size w w16) := ⟨h4_⟩
            clear h0_ h1_ h2_ h3_ h4_
            have hHeld : CS6 w16 gb252 (.int .u8 a0_0) (.slice A0_1 l0_1.length c0_1) (.slice A0_2 l0_2.length c0_2) (.slice A0_3 l0_3.length c0_3) (.slice A0_4 l0_4.length c0_4) (.slice A0_5 l0_5.length c0_5) (CE6 w16 gb253 (.int .u8 a1_0) (.slice A1_1 l1_1.length c1_1) (.slice A1_2 l1_2.length c1_2) (.slice A1_3 l1_3.length c1_3) (.slice A1_4 l1_4.length c1_4) (.slice A1_5 l1_5.length c1_5)) := hS_
            refine norm_ (a' := ?_) ?_ ?_
            rotate_left
            ·simp only [putAll, Act.put, List.setIfInBounds_toArray, List.set_cons_zero, List.set_cons_succ]
             rfl
            refine three_ (i := 3) (j := 4) (k := 5) (Ni := some 12) (Nj := some 5) (Nk := some 6) #[true, true, true, true, false, false, false, false] #[true, true, true, false, true, false, false, false] #[true, true, true, false, false, true, false, false] rfl rfl rfl rfl rfl rfl (three_of HT_.out (by kernel_rfl)) (by decide) (by decide) (by decide) (fun K hK => ?_) (fun K hK => ?_) (fun K hK => ?_)
            ·skip
             refine go1 Tryd.func9 #[.agg #[.int .u8 a1_0, .slice A1_1 l1_1.length c1_1, .slice A1_2 l1_2.length c1_2, .slice A1_3 l1_3.length c1_3, .slice A1_4 l1_4.length c1_4, .slice A1_5 l1_5.length c1_5]] ?_
             with_reducible refine (maquettelaw07_Shape_Config.calls k a1_0 _ _ l1_1 _ _ l1_2 _ _ l1_3 _ _ l1_4 _ _ l1_5 t261 t264 _ ?side1 ?side2 ?side3 ?side4 ?side5 ?side6 ?side7 ?side8 ?side9 ?side10 A6.out).mono ?_
             (case side1 => exact kcb HR1_1)
             (case side2 => exact HC1_1.out)
             (case side3 => exact kcb HR1_2)
             (case side4 => exact HC1_2.out)
             (case side5 => exact kcb HR1_3)
             (case side6 => exact HC1_3.out)
             (case side7 => exact kcb HR1_4)
             (case side8 => exact HC1_4.out)
             (case side9 => exact kcb HR1_5)
             (case side10 => exact HC1_5.out)
             rintro e w17 ⟨v262, v265, rfl, ho0, ho1, hb⟩
             refine ⟨_, rfl, ?_⟩
             have HO263 := Aside0.mk (Kd.S_lower (Kd.S_new' ho0 (Kd.S_lt (kS HO257))) (below_size bel))
             have HO266 := Aside0.mk (Kd.S_lower (Kd.S_new' ho1 (Kd.S_lt (kS HO260))) (below_size bel))
             replace HO257 := Aside0.mk (Kd.S_elder' (kS HO257) (Kd.S_base ho0) hb)
             replace HO260 := Aside0.mk (Kd.S_elder' (kS HO260) (Kd.S_base ho1) hb)
             replace BK252 := bkb BK252 hb
             replace BK253 := bkb BK253 hb
             replace HB := bst hb
             (try clear hb)
             (try clear hb2)
             (try clear hk)
             (try clear hi)
             (try clear ho0)
             (try clear ho1)
             refine hK.out _ _ (hs6 BK252 (he6 BK253)) (fun hHeld => ?_)
             clear hK K
             refine nm (some 12) ?_
             exact nj (hJ1_3 (v256, v259, v262, v265) _ ⟨hHeld, (by (with_reducible repeat (first | apply Kd.S_alloc | apply Kd.S_drewN | apply Kd.S_drew)); exact Kd.S_mono HO257.out (fun _ hk => hk.2)), (by (with_reducible repeat (first | apply Kd.S_alloc | apply Kd.S_drewN | apply Kd.S_drew)); exact Kd.S_mono HO260.out (fun _ hk => hk.2)), (by (with_reducible repeat (first | apply Kd.S_alloc | apply Kd.S_drewN | apply Kd.S_drew)); exact Kd.S_mono HO263.out (fun _ hk => hk.2)), (by (with_reducible repeat (first | apply Kd.S_alloc | apply Kd.S_drewN | apply Kd.S_drew)); exact Kd.S_mono HO266.out (fun _ hk => hk.2)), (bkq BK252), (bkq BK253), bel⟩)
            ·skip
             refine box_step ?hg (N := 5) ?hd (cs := #[.slice none 0 0, .slice none 0 0]) (t := 30) ?hr ?_; (case hd => rfl); (case hg => rfl); (case hr => first | (go_simp; done) | (go_simp; rfl))
             intro gb267 hg w17 hbox hb
             have BK267 := Aside0.mk hbox
             have GW267 : Aside0 (w.heap.size ≤ gb267) := bge hg
             have GE267 : Aside0 (w.heap.size ≤ gb267) := bge hg
             have NB252_267 := bne BK252 hg
             have NB267_252 := bnf BK252 hg
             have NB253_267 := bne BK253 hg
             have NB267_253 := bnf BK253 hg
             replace HO257 := Aside0.mk (Kd.S_below (kS HO257) hb)
             replace HO260 := Aside0.mk (Kd.S_below (kS HO260) hb)
             replace BK252 := bkb BK252 hb
             replace BK253 := bkb BK253 hb
             replace HB := bst hb
             clear hb hbox hg
             refine hK.out _ _ (hs6 BK252 (he6 BK253)) (fun hHeld => ?_)
             clear hK K
             refine nm (some 5) ?_
             exact nj (hJ1_4 (v256, v259, gb267) _ ⟨hHeld, (kS HO257), (kS HO260), (bkq BK252), (bkq BK253), (bkq BK267), GW267.out, GE267.out, NB252_267.out, NB267_252.out, NB253_267.out, NB267_253.out, bel⟩)
            ·skip
             refine box_step ?hg (N := 6) ?hd (cs := #[.slice none 0 0, .slice none 0 0]) (t := 30) ?hr ?_; (case hd => rfl); (case hg => rfl); (case hr => first | (go_simp; done) | (go_simp; rfl))
             intro gb268 hg w17 hbox hb
             have BK268 := Aside0.mk hbox
             have GW268 : Aside0 (w.heap.size ≤ gb268) := bge hg
             have GE268 : Aside0 (w.heap.size ≤ gb268) := bge hg
             have NB252_268 := bne BK252 hg
             have NB268_252 := bnf BK252 hg
             have NB253_268 := bne BK253 hg
             have NB268_253 := bnf BK253 hg
             replace HO257 := Aside0.mk (Kd.S_below (kS HO257) hb)
             replace HO260 := Aside0.mk (Kd.S_below (kS HO260) hb)
             replace BK252 := bkb BK252 hb
             replace BK253 := bkb BK253 hb
             replace HB := bst hb
             clear hb hbox hg
             refine hK.out _ _ (hs6 BK252 (he6 BK253)) (fun hHeld => ?_)
             clear hK K
             refine nm (some 6) ?_
             exact nj (hJ1_5 (v256, v259, gb268) _ ⟨hHeld, (kS HO257), (kS HO260), (bkq BK252), (bkq BK253), (bkq BK268), GW268.out, GE268.out, NB252_268.out, NB268_252.out, NB253_268.out, NB268_253.out, bel⟩)
          ·skip
           rintro ⟨gb267, gb268⟩ w17 ⟨hS_, h0_, h1_, h2_, h3_, h4_, h5_, h6_, h7_, h8_, h9_, h10_, h11_, h12_, h13_, h14_, h15_, h16_, h17_, h18_⟩
           have BK267 : Aside0 (w17.heap[gb267]? = some (.cells #[.slice none 0 0, .slice none 0 0] 30 (0, 0))) := ⟨h2_⟩
           have BK268 : Aside0 (w17.heap[gb268]? = some (.cells #[.slice none 0 0, .slice none 0 0] 30 (0, 0))) := ⟨h3_⟩
           have GW267 : Aside0 (w.heap.size ≤ gb267) := ⟨h4_⟩
           have GE267 : Aside0 (w.heap.size ≤ gb267) := ⟨h5_⟩
           have NB252_267 : Aside0 (gb252 ≠ gb267) := ⟨h6_⟩
           have NB267_252 : Aside0 (gb267 ≠ gb252) := ⟨h7_⟩
           have NB253_267 : Aside0 (gb253 ≠ gb267) := ⟨h8_⟩
           have NB267_253 : Aside0 (gb267 ≠ gb253) := ⟨h9_⟩
           have NB268_267 : Aside0 (gb268 ≠ gb267) := ⟨h10_⟩
           have NB267_268 : Aside0 (gb267 ≠ gb268) := ⟨h11_⟩
           have GW268 : Aside0 (w.heap.size ≤ gb268) := ⟨h12_⟩
           have GE268 : Aside0 (w.heap.size ≤ gb268) := ⟨h13_⟩
           have NB252_268 : Aside0 (gb252 ≠ gb268) := ⟨h14_⟩
           have NB268_252 : Aside0 (gb268 ≠ gb252) := ⟨h15_⟩
           have NB253_268 : Aside0 (gb253 ≠ gb268) := ⟨h16_⟩
           have NB268_253 : Aside0 (gb268 ≠ gb253) := ⟨h17_⟩
           replace BK252 : Aside0 (w17.heap[gb252]? = some (.cells #[.int .u8 a0_0, .slice A0_1 l0_1.length c0_1, .slice A0_2 l0_2.length c0_2, .slice A0_3 l0_3.length c0_3, .slice A0_4 l0_4.length c0_4, .slice A0_5 l0_5.length c0_5] 25 (0, 0))) := ⟨h0_⟩
           replace BK253 : Aside0 (w17.heap[gb253]? = some (.cells #[.int .u8 a1_0, .slice A1_1 l1_1.length c1_1, .slice A1_2 l1_2.length c1_2, .slice A1_3 l1_3.length c1_3, .slice A1_4 l1_4.length c1_4, .slice A1_5 l1_5.length c1_5] 25 (0, 0))) := ⟨h1_⟩
           replace HB : Aside0 (Below w.heap.size w w17) := ⟨h18_⟩
           clear h0_ h1_ h2_ h3_ h4_ h5_ h6_ h7_ h8_ h9_ h10_ h11_ h12_ h13_ h14_ h15_ h16_ h17_ h18_
           have hHeld : CS6 w17 gb252 (.int .u8 a0_0) (.slice A0_1 l0_1.length c0_1) (.slice A0_2 l0_2.length c0_2) (.slice A0_3 l0_3.length c0_3) (.slice A0_4 l0_4.length c0_4) (.slice A0_5 l0_5.length c0_5) (CE6 w17 gb253 (.int .u8 a1_0) (.slice A1_1 l1_1.length c1_1) (.slice A1_2 l1_2.length c1_2) (.slice A1_3 l1_3.length c1_3) (.slice A1_4 l1_4.length c1_4) (.slice A1_5 l1_5.length c1_5)) := hS_
           refine norm_ (a' := ?_) ?_ ?_
           rotate_left
           ·simp only [putAll, Act.put, List.setIfInBounds_toArray, List.set_cons_zero, List.set_cons_succ]
            rfl
           refine on HT_ 1 (some 10) (mk 8 55) fun K hK => ?_
           refine go1 Tryd.func9 #[.agg #[.int .u8 a0_0, .slice A0_1 l0_1.length c0_1, .slice A0_2 l0_2.length c0_2, .slice A0_3 l0_3.length c0_3, .slice A0_4 l0_4.length c0_4, .slice A0_5 l0_5.length c0_5]] ?_
           with_reducible refine (maquettelaw07_Shape_Config.calls k a0_0 _ _ l0_1 _ _ l0_2 _ _ l0_3 _ _ l0_4 _ _ l0_5 t255 t258 _ ?side1 ?side2 ?side3 ?side4 ?side5 ?side6 ?side7 ?side8 ?side9 ?side10 A5.out).mono ?_
           (case side1 => exact kcb HR0_1)
           (case side2 => exact HC0_1.out)
           (case side3 => exact kcb HR0_2)
           (case side4 => exact HC0_2.out)
           (case side5 => exact kcb HR0_3)
           (case side6 => exact HC0_3.out)
           (case side7 => exact kcb HR0_4)
           (case side8 => exact HC0_4.out)
           (case side9 => exact kcb HR0_5)
           (case side10 => exact HC0_5.out)
           rintro e w18 ⟨v256, v259, rfl, ho0, ho1, hb⟩
           refine ⟨_, rfl, ?_⟩
           have HO257 := Aside0.mk (Kd.S_lower ho0 (below_size bel))
           have HO260 := Aside0.mk (Kd.S_lower ho1 (below_size bel))
           replace BK252 := bkb BK252 hb
           replace BK253 := bkb BK253 hb
           replace BK267 := bkb BK267 hb
           replace BK268 := bkb BK268 hb
           replace HB := bst hb
           (try clear hb)
           (try clear hb2)
           (try clear hk)
           (try clear hi)
           (try clear ho0)
           (try clear ho1)
           refine hK.out _ _ (hs6 BK252 (he6 BK253)) (fun hHeld => ?_)
           clear hK K
           refine nm (some 10) ?_
           exact nj (hJ1_4_5 (v256, v259, gb267, gb268) _ ⟨hHeld, (kS HO257), (kS HO260), (bkq BK252), (bkq BK253), (bkq BK267), (bkq BK268), GW267.out, GE267.out, NB252_267.out, NB267_252.out, NB253_267.out, NB267_253.out, NB268_267.out, NB267_268.out, GW268.out, GE268.out, NB252_268.out, NB268_252.out, NB253_268.out, NB268_253.out, bel⟩)
         ·skip
          rintro ⟨v256, v259, gb268⟩ w17 ⟨hS_, h0_, h1_, h2_, h3_, h4_, h5_, h6_, h7_, h8_, h9_, h10_, h11_⟩
          have HO257 : Aside0 (Kd.S k36 36 w17 w.heap.size (fun _ => True) v256 t255) := ⟨h0_⟩
          have HO260 : Aside0 (Kd.S k46 46 w17 w.heap.size (fun _ => True) v259 t258) := ⟨h1_⟩
          have BK268 : Aside0 (w17.heap[gb268]? = some (.cells #[.slice none 0 0, .slice none 0 0] 30 (0, 0))) := ⟨h4_⟩
          have GW268 : Aside0 (w.heap.size ≤ gb268) := ⟨h5_⟩
          have GE268 : Aside0 (w.heap.size ≤ gb268) := ⟨h6_⟩
          have NB252_268 : Aside0 (gb252 ≠ gb268) := ⟨h7_⟩
          have NB268_252 : Aside0 (gb268 ≠ gb252) := ⟨h8_⟩
          have NB253_268 : Aside0 (gb253 ≠ gb268) := ⟨h9_⟩
          have NB268_253 : Aside0 (gb268 ≠ gb253) := ⟨h10_⟩
          replace BK252 : Aside0 (w17.heap[gb252]? = some (.cells #[.int .u8 a0_0, .slice A0_1 l0_1.length c0_1, .slice A0_2 l0_2.length c0_2, .slice A0_3 l0_3.length c0_3, .slice A0_4 l0_4.length c0_4, .slice A0_5 l0_5.length c0_5] 25 (0, 0))) := ⟨h2_⟩
          replace BK253 : Aside0 (w17.heap[gb253]? = some (.cells #[.int .u8 a1_0, .slice A1_1 l1_1.length c1_1, .slice A1_2 l1_2.length c1_2, .slice A1_3 l1_3.length c1_3, .slice A1_4 l1_4.length c1_4, .slice A1_5 l1_5.length c1_5] 25 (0, 0))) := ⟨h3_⟩
          replace HB : Aside0 (Below w.heap.size w w17) := ⟨h11_⟩
          clear h0_ h1_ h2_ h3_ h4_ h5_ h6_ h7_ h8_ h9_ h10_ h11_
          have hHeld : CS6 w17 gb252 (.int .u8 a0_0) (.slice A0_1 l0_1.length c0_1) (.slice A0_2 l0_2.length c0_2) (.slice A0_3 l0_3.length c0_3) (.slice A0_4 l0_4.length c0_4) (.slice A0_5 l0_5.length c0_5) (CE6 w17 gb253 (.int .u8 a1_0) (.slice A1_1 l1_1.length c1_1) (.slice A1_2 l1_2.length c1_2) (.slice A1_3 l1_3.length c1_3) (.slice A1_4 l1_4.length c1_4) (.slice A1_5 l1_5.length c1_5)) := hS_
          refine norm_ (a' := ?_) ?_ ?_
          rotate_left
          ·simp only [putAll, Act.put, List.setIfInBounds_toArray, List.set_cons_zero, List.set_cons_succ]
           rfl
          refine two_ (i := 3) (j := 4) (Ni := some 12) (Nj := some 5) #[true, true, true, true, false, true, false, false] #[true, true, true, false, true, true, false, false] rfl rfl rfl rfl (two_of HT_.out (by kernel_rfl)) (by decide) (by decide) (fun K hK => ?_) (fun K hK => ?_)
          ·skip
           refine go1 Tryd.func9 #[.agg #[.int .u8 a1_0, .slice A1_1 l1_1.length c1_1, .slice A1_2 l1_2.length c1_2, .slice A1_3 l1_3.length c1_3, .slice A1_4 l1_4.length c1_4, .slice A1_5 l1_5.length c1_5]] ?_
           with_reducible refine (maquettelaw07_Shape_Config.calls k a1_0 _ _ l1_1 _ _ l1_2 _ _ l1_3 _ _ l1_4 _ _ l1_5 t261 t264 _ ?side1 ?side2 ?side3 ?side4 ?side5 ?side6 ?side7 ?side8 ?side9 ?side10 A6.out).mono ?_
           (case side1 => exact kcb HR1_1)
           (case side2 => exact HC1_1.out)
           (case side3 => exact kcb HR1_2)
           (case side4 => exact HC1_2.out)
           (case side5 => exact kcb HR1_3)
           (case side6 => exact HC1_3.out)
           (case side7 => exact kcb HR1_4)
           (case side8 => exact HC1_4.out)
           (case side9 => exact kcb HR1_5)
           (case side10 => exact HC1_5.out)
           rintro e w18 ⟨v262, v265, rfl, ho0, ho1, hb⟩
           refine ⟨_, rfl, ?_⟩
           have HO263 := Aside0.mk (Kd.S_lower (Kd.S_new' ho0 (Kd.S_lt (kS HO257))) (below_size bel))
           have HO266 := Aside0.mk (Kd.S_lower (Kd.S_new' ho1 (Kd.S_lt (kS HO260))) (below_size bel))
           replace HO257 := Aside0.mk (Kd.S_elder' (kS HO257) (Kd.S_base ho0) hb)
           replace HO260 := Aside0.mk (Kd.S_elder' (kS HO260) (Kd.S_base ho1) hb)
           replace BK252 := bkb BK252 hb
           replace BK253 := bkb BK253 hb
           replace BK268 := bkb BK268 hb
           replace HB := bst hb
           (try clear hb)
           (try clear hb2)
           (try clear hk)
           (try clear hi)
           (try clear ho0)
           (try clear ho1)
           refine hK.out _ _ (hs6 BK252 (he6 BK253)) (fun hHeld => ?_)
           clear hK K
           refine nm (some 12) ?_
           exact nj (hJ1_3_5 (v256, v259, v262, v265, gb268) _ ⟨hHeld, (by (with_reducible repeat (first | apply Kd.S_alloc | apply Kd.S_drewN | apply Kd.S_drew)); exact Kd.S_mono HO257.out (fun _ hk => hk.2)), (by (with_reducible repeat (first | apply Kd.S_alloc | apply Kd.S_drewN | apply Kd.S_drew)); exact Kd.S_mono HO260.out (fun _ hk => hk.2)), (by (with_reducible repeat (first | apply Kd.S_alloc | apply Kd.S_drewN | apply Kd.S_drew)); exact Kd.S_mono HO263.out (fun _ hk => hk.2)), (by (with_reducible repeat (first | apply Kd.S_alloc | apply Kd.S_drewN | apply Kd.S_drew)); exact Kd.S_mono HO266.out (fun _ hk => hk.2)), (bkq BK252), (bkq BK253), (bkq BK268), GW268.out, GE268.out, NB252_268.out, NB268_252.out, NB253_268.out, NB268_253.out, bel⟩)
          ·skip
           refine box_step ?hg (N := 5) ?hd (cs := #[.slice none 0 0, .slice none 0 0]) (t := 30) ?hr ?_; (case hd => rfl); (case hg => rfl); (case hr => first | (go_simp; done) | (go_simp; rfl))
           intro gb267 hg w18 hbox hb
           have BK267 := Aside0.mk hbox
           have GW267 : Aside0 (w.heap.size ≤ gb267) := bge hg
           have GE267 : Aside0 (w.heap.size ≤ gb267) := bge hg
           have NB252_267 := bne BK252 hg
           have NB267_252 := bnf BK252 hg
           have NB253_267 := bne BK253 hg
           have NB267_253 := bnf BK253 hg
           have NB268_267 := bne BK268 hg
           have NB267_268 := bnf BK268 hg
           replace HO257 := Aside0.mk (Kd.S_below (kS HO257) hb)
           replace HO260 := Aside0.mk (Kd.S_below (kS HO260) hb)
           replace BK252 := bkb BK252 hb
           replace BK253 := bkb BK253 hb
           replace BK268 := bkb BK268 hb
           replace HB := bst hb
           clear hb hbox hg
           refine hK.out _ _ (hs6 BK252 (he6 BK253)) (fun hHeld => ?_)
           clear hK K
           refine nm (some 5) ?_
           exact nj (hJ1_4_5 (v256, v259, gb267, gb268) _ ⟨hHeld, (kS HO257), (kS HO260), (bkq BK252), (bkq BK253), (bkq BK267), (bkq BK268), GW267.out, GE267.out, NB252_267.out, NB267_252.out, NB253_267.out, NB267_253.out, NB268_267.out, NB267_268.out, GW268.out, GE268.out, NB252_268.out, NB268_252.out, NB253_268.out, NB268_253.out, bel⟩)
        ·skip
         rintro ⟨v256, v259, gb267⟩ w17 ⟨hS_, h0_, h1_, h2_, h3_, h4_, h5_, h6_, h7_, h8_, h9_, h10_, h11_⟩
         have HO257 : Aside0 (Kd.S k36 36 w17 w.heap.size (fun _ => True) v256 t255) := ⟨h0_⟩
         have HO260 : Aside0 (Kd.S k46 46 w17 w.heap.size (fun _ => True) v259 t258) := ⟨h1_⟩
         have BK267 : Aside0 (w17.heap[gb267]? = some (.cells #[.slice none 0 0, .slice none 0 0] 30 (0, 0))) := ⟨h4_⟩
         have GW267 : Aside0 (w.heap.size ≤ gb267) := ⟨h5_⟩
         have GE267 : Aside0 (w.heap.size ≤ gb267) := ⟨h6_⟩
         have NB252_267 : Aside0 (gb252 ≠ gb267) := ⟨h7_⟩
         have NB267_252 : Aside0 (gb267 ≠ gb252) := ⟨h8_⟩
         have NB253_267 : Aside0 (gb253 ≠ gb267) := ⟨h9_⟩
         have NB267_253 : Aside0 (gb267 ≠ gb253) := ⟨h10_⟩
         replace BK252 : Aside0 (w17.heap[gb252]? = some (.cells #[.int .u8 a0_0, .slice A0_1 l0_1.length c0_1, .slice A0_2 l0_2.length c0_2, .slice A0_3 l0_3.length c0_3, .slice A0_4 l0_4.length c0_4, .slice A0_5 l0_5.length c0_5] 25 (0, 0))) := ⟨h2_⟩
         replace BK253 : Aside0 (w17.heap[gb253]? = some (.cells #[.int .u8 a1_0, .slice A1_1 l1_1.length c1_1, .slice A1_2 l1_2.length c1_2, .slice A1_3 l1_3.length c1_3, .slice A1_4 l1_4.length c1_4, .slice A1_5 l1_5.length c1_5] 25 (0, 0))) := ⟨h3_⟩
         replace HB : Aside0 (Below w.heap.size w w17) := ⟨h11_⟩
         clear h0_ h1_ h2_ h3_ h4_ h5_ h6_ h7_ h8_ h9_ h10_ h11_
         have hHeld : CS6 w17 gb252 (.int .u8 a0_0) (.slice A0_1 l0_1.length c0_1) (.slice A0_2 l0_2.length c0_2) (.slice A0_3 l0_3.length c0_3) (.slice A0_4 l0_4.length c0_4) (.slice A0_5 l0_5.length c0_5) (CE6 w17 gb253 (.int .u8 a1_0) (.slice A1_1 l1_1.length c1_1) (.slice A1_2 l1_2.length c1_2) (.slice A1_3 l1_3.length c1_3) (.slice A1_4 l1_4.length c1_4) (.slice A1_5 l1_5.length c1_5)) := hS_
         refine norm_ (a' := ?_) ?_ ?_
         rotate_left
         ·simp only [putAll, Act.put, List.setIfInBounds_toArray, List.set_cons_zero, List.set_cons_succ]
          rfl
         refine two_ (i := 3) (j := 5) (Ni := some 12) (Nj := some 6) #[true, true, true, true, true, false, false, false] #[true, true, true, false, true, true, false, false] rfl rfl rfl rfl (two_of HT_.out (by kernel_rfl)) (by decide) (by decide) (fun K hK => ?_) (fun K hK => ?_)
         ·skip
          refine go1 Tryd.func9 #[.agg #[.int .u8 a1_0, .slice A1_1 l1_1.length c1_1, .slice A1_2 l1_2.length c1_2, .slice A1_3 l1_3.length c1_3, .slice A1_4 l1_4.length c1_4, .slice A1_5 l1_5.length c1_5]] ?_
          with_reducible refine (maquettelaw07_Shape_Config.calls k a1_0 _ _ l1_1 _ _ l1_2 _ _ l1_3 _ _ l1_4 _ _ l1_5 t261 t264 _ ?side1 ?side2 ?side3 ?side4 ?side5 ?side6 ?side7 ?side8 ?side9 ?side10 A6.out).mono ?_
          (case side1 => exact kcb HR1_1)
          (case side2 => exact HC1_1.out)
          (case side3 => exact kcb HR1_2)
          (case side4 => exact HC1_2.out)
          (case side5 => exact kcb HR1_3)
          (case side6 => exact HC1_3.out)
          (case side7 => exact kcb HR1_4)
          (case side8 => exact HC1_4.out)
          (case side9 => exact kcb HR1_5)
          (case side10 => exact HC1_5.out)
          rintro e w18 ⟨v262, v265, rfl, ho0, ho1, hb⟩
          refine ⟨_, rfl, ?_⟩
          have HO263 := Aside0.mk (Kd.S_lower (Kd.S_new' ho0 (Kd.S_lt (kS HO257))) (below_size bel))
          have HO266 := Aside0.mk (Kd.S_lower (Kd.S_new' ho1 (Kd.S_lt (kS HO260))) (below_size bel))
          replace HO257 := Aside0.mk (Kd.S_elder' (kS HO257) (Kd.S_base ho0) hb)
          replace HO260 := Aside0.mk (Kd.S_elder' (kS HO260) (Kd.S_base ho1) hb)
          replace BK252 := bkb BK252 hb
          replace BK253 := bkb BK253 hb
          replace BK267 := bkb BK267 hb
          replace HB := bst hb
          (try clear hb)
          (try clear hb2)
          (try clear hk)
          (try clear hi)
          (try clear ho0)
          (try clear ho1)
          refine hK.out _ _ (hs6 BK252 (he6 BK253)) (fun hHeld => ?_)
          clear hK K
          refine nm (some 12) ?_
          exact nj (hJ1_3_4 (v256, v259, v262, v265, gb267) _ ⟨hHeld, (by (with_reducible repeat (first | apply Kd.S_alloc | apply Kd.S_drewN | apply Kd.S_drew)); exact Kd.S_mono HO257.out (fun _ hk => hk.2)), (by (with_reducible repeat (first | apply Kd.S_alloc | apply Kd.S_drewN | apply Kd.S_drew)); exact Kd.S_mono HO260.out (fun _ hk => hk.2)), (by (with_reducible repeat (first | apply Kd.S_alloc | apply Kd.S_drewN | apply Kd.S_drew)); exact Kd.S_mono HO263.out (fun _ hk => hk.2)), (by (with_reducible repeat (first | apply Kd.S_alloc | apply Kd.S_drewN | apply Kd.S_drew)); exact Kd.S_mono HO266.out (fun _ hk => hk.2)), (bkq BK252), (bkq BK253), (bkq BK267), GW267.out, GE267.out, NB252_267.out, NB267_252.out, NB253_267.out, NB267_253.out, bel⟩)
         ·skip
          refine box_step ?hg (N := 6) ?hd (cs := #[.slice none 0 0, .slice none 0 0]) (t := 30) ?hr ?_; (case hd => rfl); (case hg => rfl); (case hr => first | (go_simp; done) | (go_simp; rfl))
          intro gb268 hg w18 hbox hb
          have BK268 := Aside0.mk hbox
          have GW268 : Aside0 (w.heap.size ≤ gb268) := bge hg
          have GE268 : Aside0 (w.heap.size ≤ gb268) := bge hg
          have NB252_268 := bne BK252 hg
          have NB268_252 := bnf BK252 hg
          have NB253_268 := bne BK253 hg
          have NB268_253 := bnf BK253 hg
          have NB267_268 := bne BK267 hg
          have NB268_267 := bnf BK267 hg
          replace HO257 := Aside0.mk (Kd.S_below (kS HO257) hb)
          replace HO260 := Aside0.mk (Kd.S_below (kS HO260) hb)
          replace BK252 := bkb BK252 hb
          replace BK253 := bkb BK253 hb
          replace BK267 := bkb BK267 hb
          replace HB := bst hb
          clear hb hbox hg
          refine hK.out _ _ (hs6 BK252 (he6 BK253)) (fun hHeld => ?_)
          clear hK K
          refine nm (some 6) ?_
          exact nj (hJ1_4_5 (v256, v259, gb267, gb268) _ ⟨hHeld, (kS HO257), (kS HO260), (bkq BK252), (bkq BK253), (bkq BK267), (bkq BK268), GW267.out, GE267.out, NB252_267.out, NB267_252.out, NB253_267.out, NB267_253.out, NB268_267.out, NB267_268.out, GW268.out, GE268.out, NB252_268.out, NB268_252.out, NB253_268.out, NB268_253.out, bel⟩)
       ·skip
        rintro ⟨v256, v259, v262, v265⟩ w17 ⟨hS_, h0_, h1_, h2_, h3_, h4_, h5_, h6_⟩
        have HO257 : Aside0 (Kd.S k36 36 w17 w.heap.size (fun k_ => some k_ ≠ (v262 : Value).ownBlock) v256 t255) := ⟨h0_⟩
        have HO260 : Aside0 (Kd.S k46 46 w17 w.heap.size (fun k_ => some k_ ≠ (v265 : Value).ownBlock) v259 t258) := ⟨h1_⟩
        have HO263 : Aside0 (Kd.S k36 36 w17 w.heap.size (fun k_ => some k_ ≠ (v256 : Value).ownBlock) v262 t261) := ⟨h2_⟩
        have HO266 : Aside0 (Kd.S k46 46 w17 w.heap.size (fun k_ => some k_ ≠ (v259 : Value).ownBlock) v265 t264) := ⟨h3_⟩
        replace BK252 : Aside0 (w17.heap[gb252]? = some (.cells #[.int .u8 a0_0, .slice A0_1 l0_1.length c0_1, .slice A0_2 l0_2.length c0_2, .slice A0_3 l0_3.length c0_3, .slice A0_4 l0_4.length c0_4, .slice A0_5 l0_5.length c0_5] 25 (0, 0))) := ⟨h4_⟩
        replace BK253 : Aside0 (w17.heap[gb253]? = some (.cells #[.int .u8 a1_0, .slice A1_1 l1_1.length c1_1, .slice A1_2 l1_2.length c1_2, .slice A1_3 l1_3.length c1_3, .slice A1_4 l1_4.length c1_4, .slice A1_5 l1_5.length c1_5] 25 (0, 0))) := ⟨h5_⟩
        replace HB : Aside0 (Below w.heap.size w w17) := ⟨h6_⟩
        clear h0_ h1_ h2_ h3_ h4_ h5_ h6_
        have hHeld : CS6 w17 gb252 (.int .u8 a0_0) (.slice A0_1 l0_1.length c0_1) (.slice A0_2 l0_2.length c0_2) (.slice A0_3 l0_3.length c0_3) (.slice A0_4 l0_4.length c0_4) (.slice A0_5 l0_5.length c0_5) (CE6 w17 gb253 (.int .u8 a1_0) (.slice A1_1 l1_1.length c1_1) (.slice A1_2 l1_2.length c1_2) (.slice A1_3 l1_3.length c1_3) (.slice A1_4 l1_4.length c1_4) (.slice A1_5 l1_5.length c1_5)) := hS_
        refine norm_ (a' := ?_) ?_ ?_
        rotate_left
        ·simp only [putAll, Act.put, List.setIfInBounds_toArray, List.set_cons_zero, List.set_cons_succ]
         rfl
        refine two_ (i := 4) (j := 5) (Ni := some 5) (Nj := some 6) #[true, true, true, true, true, false, false, false] #[true, true, true, true, false, true, false, false] rfl rfl rfl rfl (two_of HT_.out (by kernel_rfl)) (by decide) (by decide) (fun K hK => ?_) (fun K hK => ?_)
        ·skip
         refine box_step ?hg (N := 5) ?hd (cs := #[.slice none 0 0, .slice none 0 0]) (t := 30) ?hr ?_; (case hd => rfl); (case hg => rfl); (case hr => first | (go_simp; done) | (go_simp; rfl))
         intro gb267 hg w18 hbox hb
         have BK267 := Aside0.mk hbox
         have GW267 : Aside0 (w.heap.size ≤ gb267) := bge hg
         have GE267 : Aside0 (w.heap.size ≤ gb267) := bge hg
         have NB252_267 := bne BK252 hg
         have NB267_252 := bnf BK252 hg
         have NB253_267 := bne BK253 hg
         have NB267_253 := bnf BK253 hg
         replace HO257 := Aside0.mk (Kd.S_below (kS HO257) hb)
         replace HO260 := Aside0.mk (Kd.S_below (kS HO260) hb)
         replace HO263 := Aside0.mk (Kd.S_below (kS HO263) hb)
         replace HO266 := Aside0.mk (Kd.S_below (kS HO266) hb)
         replace BK252 := bkb BK252 hb
         replace BK253 := bkb BK253 hb
         replace HB := bst hb
         clear hb hbox hg
         refine hK.out _ _ (hs6 BK252 (he6 BK253)) (fun hHeld => ?_)
         clear hK K
         refine nm (some 5) ?_
         exact nj (hJ1_3_4 (v256, v259, v262, v265, gb267) _ ⟨hHeld, (kS HO257), (kS HO260), (kS HO263), (kS HO266), (bkq BK252), (bkq BK253), (bkq BK267), GW267.out, GE267.out, NB252_267.out, NB267_252.out, NB253_267.out, NB267_253.out, bel⟩)
        ·skip
         refine box_step ?hg (N := 6) ?hd (cs := #[.slice none 0 0, .slice none 0 0]) (t := 30) ?hr ?_; (case hd => rfl); (case hg => rfl); (case hr => first | (go_simp; done) | (go_simp; rfl))
         intro gb268 hg w18 hbox hb
         have BK268 := Aside0.mk hbox
         have GW268 : Aside0 (w.heap.size ≤ gb268) := bge hg
         have GE268 : Aside0 (w.heap.size ≤ gb268) := bge hg
         have NB252_268 := bne BK252 hg
         have NB268_252 := bnf BK252 hg
         have NB253_268 := bne BK253 hg
         have NB268_253 := bnf BK253 hg
         replace HO257 := Aside0.mk (Kd.S_below (kS HO257) hb)
         replace HO260 := Aside0.mk (Kd.S_below (kS HO260) hb)
         replace HO263 := Aside0.mk (Kd.S_below (kS HO263) hb)
         replace HO266 := Aside0.mk (Kd.S_below (kS HO266) hb)
         replace BK252 := bkb BK252 hb
         replace BK253 := bkb BK253 hb
         replace HB := bst hb
         clear hb hbox hg
         refine hK.out _ _ (hs6 BK252 (he6 BK253)) (fun hHeld => ?_)
         clear hK K
         refine nm (some 6) ?_
         exact nj (hJ1_3_5 (v256, v259, v262, v265, gb268) _ ⟨hHeld, (kS HO257), (kS HO260), (kS HO263), (kS HO266), (bkq BK252), (bkq BK253), (bkq BK268), GW268.out, GE268.out, NB252_268.out, NB268_252.out, NB253_268.out, NB268_253.out, bel⟩)
      ·skip
       rintro ⟨v256, v259, gb267, gb268⟩ w18 ⟨hS_, h0_, h1_, h2_, h3_, h4_, h5_, h6_, h7_, h8_, h9_, h10_, h11_, h12_, h13_, h14_, h15_, h16_, h17_, h18_, h19_, h20_⟩
       have HO257 : Aside0 (Kd.S k36 36 w18 w.heap.size (fun _ => True) v256 t255) := ⟨h0_⟩
       have HO260 : Aside0 (Kd.S k46 46 w18 w.heap.size (fun _ => True) v259 t258) := ⟨h1_⟩
       have BK267 : Aside0 (w18.heap[gb267]? = some (.cells #[.slice none 0 0, .slice none 0 0] 30 (0, 0))) := ⟨h4_⟩
       have BK268 : Aside0 (w18.heap[gb268]? = some (.cells #[.slice none 0 0, .slice none 0 0] 30 (0, 0))) := ⟨h5_⟩
       have GW267 : Aside0 (w.heap.size ≤ gb267) := ⟨h6_⟩
       have GE267 : Aside0 (w.heap.size ≤ gb267) := ⟨h7_⟩
       have NB252_267 : Aside0 (gb252 ≠ gb267) := ⟨h8_⟩
       have NB267_252 : Aside0 (gb267 ≠ gb252) := ⟨h9_⟩
       have NB253_267 : Aside0 (gb253 ≠ gb267) := ⟨h10_⟩
       have NB267_253 : Aside0 (gb267 ≠ gb253) := ⟨h11_⟩
       have NB268_267 : Aside0 (gb268 ≠ gb267) := ⟨h12_⟩
       have NB267_268 : Aside0 (gb267 ≠ gb268) := ⟨h13_⟩
       have GW268 : Aside0 (w.heap.size ≤ gb268) := ⟨h14_⟩
       have GE268 : Aside0 (w.heap.size ≤ gb268) := ⟨h15_⟩
       have NB252_268 : Aside0 (gb252 ≠ gb268) := ⟨h16_⟩
       have NB268_252 : Aside0 (gb268 ≠ gb252) := ⟨h17_⟩
       have NB253_268 : Aside0 (gb253 ≠ gb268) := ⟨h18_⟩
       have NB268_253 : Aside0 (gb268 ≠ gb253) := ⟨h19_⟩
       replace BK252 : Aside0 (w18.heap[gb252]? = some (.cells #[.int .u8 a0_0, .slice A0_1 l0_1.length c0_1, .slice A0_2 l0_2.length c0_2, .slice A0_3 l0_3.length c0_3, .slice A0_4 l0_4.length c0_4, .slice A0_5 l0_5.length c0_5] 25 (0, 0))) := ⟨h2_⟩
       replace BK253 : Aside0 (w18.heap[gb253]? = some (.cells #[.int .u8 a1_0, .slice A1_1 l1_1.length c1_1, .slice A1_2 l1_2.length c1_2, .slice A1_3 l1_3.length c1_3, .slice A1_4 l1_4.length c1_4, .slice A1_5 l1_5.length c1_5] 25 (0, 0))) := ⟨h3_⟩
       replace HB : Aside0 (Below w.heap.size w w18) := ⟨h20_⟩
       clear h0_ h1_ h2_ h3_ h4_ h5_ h6_ h7_ h8_ h9_ h10_ h11_ h12_ h13_ h14_ h15_ h16_ h17_ h18_ h19_ h20_
       have hHeld : CS6 w18 gb252 (.int .u8 a0_0) (.slice A0_1 l0_1.length c0_1) (.slice A0_2 l0_2.length c0_2) (.slice A0_3 l0_3.length c0_3) (.slice A0_4 l0_4.length c0_4) (.slice A0_5 l0_5.length c0_5) (CE6 w18 gb253 (.int .u8 a1_0) (.slice A1_1 l1_1.length c1_1) (.slice A1_2 l1_2.length c1_2) (.slice A1_3 l1_3.length c1_3) (.slice A1_4 l1_4.length c1_4) (.slice A1_5 l1_5.length c1_5)) := hS_
       refine norm_ (a' := ?_) ?_ ?_
       rotate_left
       ·simp only [putAll, Act.put, List.setIfInBounds_toArray, List.set_cons_zero, List.set_cons_succ]
        rfl
       refine on HT_ 3 (some 12) (mk 8 63) fun K hK => ?_
       refine go1 Tryd.func9 #[.agg #[.int .u8 a1_0, .slice A1_1 l1_1.length c1_1, .slice A1_2 l1_2.length c1_2, .slice A1_3 l1_3.length c1_3, .slice A1_4 l1_4.length c1_4, .slice A1_5 l1_5.length c1_5]] ?_
       with_reducible refine (maquettelaw07_Shape_Config.calls k a1_0 _ _ l1_1 _ _ l1_2 _ _ l1_3 _ _ l1_4 _ _ l1_5 t261 t264 _ ?side1 ?side2 ?side3 ?side4 ?side5 ?side6 ?side7 ?side8 ?side9 ?side10 A6.out).mono ?_
       (case side1 => exact kcb HR1_1)
       (case side2 => exact HC1_1.out)
       (case side3 => exact kcb HR1_2)
       (case side4 => exact HC1_2.out)
       (case side5 => exact kcb HR1_3)
       (case side6 => exact HC1_3.out)
       (case side7 => exact kcb HR1_4)
       (case side8 => exact HC1_4.out)
       (case side9 => exact kcb HR1_5)
       (case side10 => exact HC1_5.out)
       rintro e w19 ⟨v262, v265, rfl, ho0, ho1, hb⟩
       refine ⟨_, rfl, ?_⟩
       have HO263 := Aside0.mk (Kd.S_lower (Kd.S_new' ho0 (Kd.S_lt (kS HO257))) (below_size bel))
       have HO266 := Aside0.mk (Kd.S_lower (Kd.S_new' ho1 (Kd.S_lt (kS HO260))) (below_size bel))
       replace HO257 := Aside0.mk (Kd.S_elder' (kS HO257) (Kd.S_base ho0) hb)
       replace HO260 := Aside0.mk (Kd.S_elder' (kS HO260) (Kd.S_base ho1) hb)
       replace BK252 := bkb BK252 hb
       replace BK253 := bkb BK253 hb
       replace BK267 := bkb BK267 hb
       replace BK268 := bkb BK268 hb
       replace HB := bst hb
       (try clear hb)
       (try clear hb2)
       (try clear hk)
       (try clear hi)
       (try clear ho0)
       (try clear ho1)
       refine hK.out _ _ (hs6 BK252 (he6 BK253)) (fun hHeld => ?_)
       clear hK K
       refine nm (some 12) ?_
       exact nj (hJ1_3_4_5 (v256, v259, v262, v265, gb267, gb268) _ ⟨hHeld, (by (with_reducible repeat (first | apply Kd.S_alloc | apply Kd.S_drewN | apply Kd.S_drew)); exact Kd.S_mono HO257.out (fun _ hk => hk.2)), (by (with_reducible repeat (first | apply Kd.S_alloc | apply Kd.S_drewN | apply Kd.S_drew)); exact Kd.S_mono HO260.out (fun _ hk => hk.2)), (by (with_reducible repeat (first | apply Kd.S_alloc | apply Kd.S_drewN | apply Kd.S_drew)); exact Kd.S_mono HO263.out (fun _ hk => hk.2)), (by (with_reducible repeat (first | apply Kd.S_alloc | apply Kd.S_drewN | apply Kd.S_drew)); exact Kd.S_mono HO266.out (fun _ hk => hk.2)), (bkq BK252), (bkq BK253), (bkq BK267), (bkq BK268), GW267.out, GE267.out, NB252_267.out, NB267_252.out, NB253_267.out, NB267_253.out, NB268_267.out, NB267_268.out, GW268.out, GE268.out, NB252_268.out, NB268_252.out, NB253_268.out, NB268_253.out, bel⟩)
     ·skip
      rintro ⟨v256, v259, v262, v265, gb268⟩ w18 ⟨hS_, h0_, h1_, h2_, h3_, h4_, h5_, h6_, h7_, h8_, h9_, h10_, h11_, h12_, h13_⟩
      have HO257 : Aside0 (Kd.S k36 36 w18 w.heap.size (fun k_ => some k_ ≠ (v262 : Value).ownBlock) v256 t255) := ⟨h0_⟩
      have HO260 : Aside0 (Kd.S k46 46 w18 w.heap.size (fun k_ => some k_ ≠ (v265 : Value).ownBlock) v259 t258) := ⟨h1_⟩
      have HO263 : Aside0 (Kd.S k36 36 w18 w.heap.size (fun k_ => some k_ ≠ (v256 : Value).ownBlock) v262 t261) := ⟨h2_⟩
      have HO266 : Aside0 (Kd.S k46 46 w18 w.heap.size (fun k_ => some k_ ≠ (v259 : Value).ownBlock) v265 t264) := ⟨h3_⟩
      have BK268 : Aside0 (w18.heap[gb268]? = some (.cells #[.slice none 0 0, .slice none 0 0] 30 (0, 0))) := ⟨h6_⟩
      have GW268 : Aside0 (w.heap.size ≤ gb268) := ⟨h7_⟩
      have GE268 : Aside0 (w.heap.size ≤ gb268) := ⟨h8_⟩
      have NB252_268 : Aside0 (gb252 ≠ gb268) := ⟨h9_⟩
      have NB268_252 : Aside0 (gb268 ≠ gb252) := ⟨h10_⟩
      have NB253_268 : Aside0 (gb253 ≠ gb268) := ⟨h11_⟩
      have NB268_253 : Aside0 (gb268 ≠ gb253) := ⟨h12_⟩
      replace BK252 : Aside0 (w18.heap[gb252]? = some (.cells #[.int .u8 a0_0, .slice A0_1 l0_1.length c0_1, .slice A0_2 l0_2.length c0_2, .slice A0_3 l0_3.length c0_3, .slice A0_4 l0_4.length c0_4, .slice A0_5 l0_5.length c0_5] 25 (0, 0))) := ⟨h4_⟩
      replace BK253 : Aside0 (w18.heap[gb253]? = some (.cells #[.int .u8 a1_0, .slice A1_1 l1_1.length c1_1, .slice A1_2 l1_2.length c1_2, .slice A1_3 l1_3.length c1_3, .slice A1_4 l1_4.length c1_4, .slice A1_5 l1_5.length c1_5] 25 (0, 0))) := ⟨h5_⟩
      replace HB : Aside0 (Below w.heap.size w w18) := ⟨h13_⟩
      clear h0_ h1_ h2_ h3_ h4_ h5_ h6_ h7_ h8_ h9_ h10_ h11_ h12_ h13_
      have hHeld : CS6 w18 gb252 (.int .u8 a0_0) (.slice A0_1 l0_1.length c0_1) (.slice A0_2 l0_2.length c0_2) (.slice A0_3 l0_3.length c0_3) (.slice A0_4 l0_4.length c0_4) (.slice A0_5 l0_5.length c0_5) (CE6 w18 gb253 (.int .u8 a1_0) (.slice A1_1 l1_1.length c1_1) (.slice A1_2 l1_2.length c1_2) (.slice A1_3 l1_3.length c1_3) (.slice A1_4 l1_4.length c1_4) (.slice A1_5 l1_5.length c1_5)) := hS_
      refine norm_ (a' := ?_) ?_ ?_
      rotate_left
      ·simp only [putAll, Act.put, List.setIfInBounds_toArray, List.set_cons_zero, List.set_cons_succ]
       rfl
      refine on HT_ 4 (some 5) (mk 8 63) fun K hK => ?_
      refine box_step ?hg (N := 5) ?hd (cs := #[.slice none 0 0, .slice none 0 0]) (t := 30) ?hr ?_; (case hd => rfl); (case hg => rfl); (case hr => first | (go_simp; done) | (go_simp; rfl))
      intro gb267 hg w19 hbox hb
      have BK267 := Aside0.mk hbox
      have GW267 : Aside0 (w.heap.size ≤ gb267) := bge hg
      have GE267 : Aside0 (w.heap.size ≤ gb267) := bge hg
      have NB252_267 := bne BK252 hg
      have NB267_252 := bnf BK252 hg
      have NB253_267 := bne BK253 hg
      have NB267_253 := bnf BK253 hg
      have NB268_267 := bne BK268 hg
      have NB267_268 := bnf BK268 hg
      replace HO257 := Aside0.mk (Kd.S_below (kS HO257) hb)
      replace HO260 := Aside0.mk (Kd.S_below (kS HO260) hb)
      replace HO263 := Aside0.mk (Kd.S_below (kS HO263) hb)
      replace HO266 := Aside0.mk (Kd.S_below (kS HO266) hb)
      replace BK252 := bkb BK252 hb
      replace BK253 := bkb BK253 hb
      replace BK268 := bkb BK268 hb
      replace HB := bst hb
      clear hb hbox hg
      refine hK.out _ _ (hs6 BK252 (he6 BK253)) (fun hHeld => ?_)
      clear hK K
      refine nm (some 5) ?_
      exact nj (hJ1_3_4_5 (v256, v259, v262, v265, gb267, gb268) _ ⟨hHeld, (kS HO257), (kS HO260), (kS HO263), (kS HO266), (bkq BK252), (bkq BK253), (bkq BK267), (bkq BK268), GW267.out, GE267.out, NB252_267.out, NB267_252.out, NB253_267.out, NB267_253.out, NB268_267.out, NB267_268.out, GW268.out, GE268.out, NB252_268.out, NB268_252.out, NB253_268.out, NB268_253.out, bel⟩)
    ·skip
     rintro ⟨v256, v259, v262, v265, gb267⟩ w18 ⟨hS_, h0_, h1_, h2_, h3_, h4_, h5_, h6_, h7_, h8_, h9_, h10_, h11_, h12_, h13_⟩
     have HO257 : Aside0 (Kd.S k36 36 w18 w.heap.size (fun k_ => some k_ ≠ (v262 : Value).ownBlock) v256 t255) := ⟨h0_⟩
     have HO260 : Aside0 (Kd.S k46 46 w18 w.heap.size (fun k_ => some k_ ≠ (v265 : Value).ownBlock) v259 t258) := ⟨h1_⟩
     have HO263 : Aside0 (Kd.S k36 36 w18 w.heap.size (fun k_ => some k_ ≠ (v256 : Value).ownBlock) v262 t261) := ⟨h2_⟩
     have HO266 : Aside0 (Kd.S k46 46 w18 w.heap.size (fun k_ => some k_ ≠ (v259 : Value).ownBlock) v265 t264) := ⟨h3_⟩
     have BK267 : Aside0 (w18.heap[gb267]? = some (.cells #[.slice none 0 0, .slice none 0 0] 30 (0, 0))) := ⟨h6_⟩
     have GW267 : Aside0 (w.heap.size ≤ gb267) := ⟨h7_⟩
     have GE267 : Aside0 (w.heap.size ≤ gb267) := ⟨h8_⟩
     have NB252_267 : Aside0 (gb252 ≠ gb267) := ⟨h9_⟩
     have NB267_252 : Aside0 (gb267 ≠ gb252) := ⟨h10_⟩
     have NB253_267 : Aside0 (gb253 ≠ gb267) := ⟨h11_⟩
     have NB267_253 : Aside0 (gb267 ≠ gb253) := ⟨h12_⟩
     replace BK252 : Aside0 (w18.heap[gb252]? = some (.cells #[.int .u8 a0_0, .slice A0_1 l0_1.length c0_1, .slice A0_2 l0_2.length c0_2, .slice A0_3 l0_3.length c0_3, .slice A0_4 l0_4.length c0_4, .slice A0_5 l0_5.length c0_5] 25 (0, 0))) := ⟨h4_⟩
     replace BK253 : Aside0 (w18.heap[gb253]? = some (.cells #[.int .u8 a1_0, .slice A1_1 l1_1.length c1_1, .slice A1_2 l1_2.length c1_2, .slice A1_3 l1_3.length c1_3, .slice A1_4 l1_4.length c1_4, .slice A1_5 l1_5.length c1_5] 25 (0, 0))) := ⟨h5_⟩
     replace HB : Aside0 (Below w.heap.size w w18) := ⟨h13_⟩
     clear h0_ h1_ h2_ h3_ h4_ h5_ h6_ h7_ h8_ h9_ h10_ h11_ h12_ h13_
     have hHeld : CS6 w18 gb252 (.int .u8 a0_0) (.slice A0_1 l0_1.length c0_1) (.slice A0_2 l0_2.length c0_2) (.slice A0_3 l0_3.length c0_3) (.slice A0_4 l0_4.length c0_4) (.slice A0_5 l0_5.length c0_5) (CE6 w18 gb253 (.int .u8 a1_0) (.slice A1_1 l1_1.length c1_1) (.slice A1_2 l1_2.length c1_2) (.slice A1_3 l1_3.length c1_3) (.slice A1_4 l1_4.length c1_4) (.slice A1_5 l1_5.length c1_5)) := hS_
     refine norm_ (a' := ?_) ?_ ?_
     rotate_left
     ·simp only [putAll, Act.put, List.setIfInBounds_toArray, List.set_cons_zero, List.set_cons_succ]
      rfl
     refine on HT_ 5 (some 6) (mk 8 63) fun K hK => ?_
     refine box_step ?hg (N := 6) ?hd (cs := #[.slice none 0 0, .slice none 0 0]) (t := 30) ?hr ?_; (case hd => rfl); (case hg => rfl); (case hr => first | (go_simp; done) | (go_simp; rfl))
     intro gb268 hg w19 hbox hb
     have BK268 := Aside0.mk hbox
     have GW268 : Aside0 (w.heap.size ≤ gb268) := bge hg
     have GE268 : Aside0 (w.heap.size ≤ gb268) := bge hg
     have NB252_268 := bne BK252 hg
     have NB268_252 := bnf BK252 hg
     have NB253_268 := bne BK253 hg
     have NB268_253 := bnf BK253 hg
     have NB267_268 := bne BK267 hg
     have NB268_267 := bnf BK267 hg
     replace HO257 := Aside0.mk (Kd.S_below (kS HO257) hb)
     replace HO260 := Aside0.mk (Kd.S_below (kS HO260) hb)
     replace HO263 := Aside0.mk (Kd.S_below (kS HO263) hb)
     replace HO266 := Aside0.mk (Kd.S_below (kS HO266) hb)
     replace BK252 := bkb BK252 hb
     replace BK253 := bkb BK253 hb
     replace BK267 := bkb BK267 hb
     replace HB := bst hb
     clear hb hbox hg
     refine hK.out _ _ (hs6 BK252 (he6 BK253)) (fun hHeld => ?_)
     clear hK K
     refine nm (some 6) ?_
     exact nj (hJ1_3_4_5 (v256, v259, v262, v265, gb267, gb268) _ ⟨hHeld, (kS HO257), (kS HO260), (kS HO263), (kS HO266), (bkq BK252), (bkq BK253), (bkq BK267), (bkq BK268), GW267.out, GE267.out, NB252_267.out, NB267_252.out, NB253_267.out, NB267_253.out, NB268_267.out, NB267_268.out, GW268.out, GE268.out, NB252_268.out, NB268_252.out, NB253_268.out, NB268_253.out, bel⟩)
   rintro ⟨v256, v259, v262, v265, gb267, gb268⟩ w19 ⟨hS_, h0_, h1_, h2_, h3_, h4_, h5_, h6_, h7_, h8_, h9_, h10_, h11_, h12_, h13_, h14_, h15_, h16_, h17_, h18_, h19_, h20_, h21_, h22_⟩
   have HO257 : Aside0 (Kd.S k36 36 w19 w.heap.size (fun k_ => some k_ ≠ (v262 : Value).ownBlock) v256 t255) := ⟨h0_⟩
   have HO260 : Aside0 (Kd.S k46 46 w19 w.heap.size (fun k_ => some k_ ≠ (v265 : Value).ownBlock) v259 t258) := ⟨h1_⟩
   have HO263 : Aside0 (Kd.S k36 36 w19 w.heap.size (fun k_ => some k_ ≠ (v256 : Value).ownBlock) v262 t261) := ⟨h2_⟩
   have HO266 : Aside0 (Kd.S k46 46 w19 w.heap.size (fun k_ => some k_ ≠ (v259 : Value).ownBlock) v265 t264) := ⟨h3_⟩
   have BK267 : Aside0 (w19.heap[gb267]? = some (.cells #[.slice none 0 0, .slice none 0 0] 30 (0, 0))) := ⟨h6_⟩
   have BK268 : Aside0 (w19.heap[gb268]? = some (.cells #[.slice none 0 0, .slice none 0 0] 30 (0, 0))) := ⟨h7_⟩
   have GW267 : Aside0 (w.heap.size ≤ gb267) := ⟨h8_⟩
   have GE267 : Aside0 (w.heap.size ≤ gb267) := ⟨h9_⟩
   have NB252_267 : Aside0 (gb252 ≠ gb267) := ⟨h10_⟩
   have NB267_252 : Aside0 (gb267 ≠ gb252) := ⟨h11_⟩
   have NB253_267 : Aside0 (gb253 ≠ gb267) := ⟨h12_⟩
   have NB267_253 : Aside0 (gb267 ≠ gb253) := ⟨h13_⟩
   have NB268_267 : Aside0 (gb268 ≠ gb267) := ⟨h14_⟩
   have NB267_268 : Aside0 (gb267 ≠ gb268) := ⟨h15_⟩
   have GW268 : Aside0 (w.heap.size ≤ gb268) := ⟨h16_⟩
   have GE268 : Aside0 (w.heap.size ≤ gb268) := ⟨h17_⟩
   have NB252_268 : Aside0 (gb252 ≠ gb268) := ⟨h18_⟩
   have NB268_252 : Aside0 (gb268 ≠ gb252) := ⟨h19_⟩
   have NB253_268 : Aside0 (gb253 ≠ gb268) := ⟨h20_⟩
   have NB268_253 : Aside0 (gb268 ≠ gb253) := ⟨h21_⟩
   replace BK252 : Aside0 (w19.heap[gb252]? = some (.cells #[.int .u8 a0_0, .slice A0_1 l0_1.length c0_1, .slice A0_2 l0_2.length c0_2, .slice A0_3 l0_3.length c0_3, .slice A0_4 l0_4.length c0_4, .slice A0_5 l0_5.length c0_5] 25 (0, 0))) := ⟨h4_⟩
   replace BK253 : Aside0 (w19.heap[gb253]? = some (.cells #[.int .u8 a1_0, .slice A1_1 l1_1.length c1_1, .slice A1_2 l1_2.length c1_2, .slice A1_3 l1_3.length c1_3, .slice A1_4 l1_4.length c1_4, .slice A1_5 l1_5.length c1_5] 25 (0, 0))) := ⟨h5_⟩
   replace HB : Aside0 (Below w.heap.size w w19) := ⟨h22_⟩
   clear h0_ h1_ h2_ h3_ h4_ h5_ h6_ h7_ h8_ h9_ h10_ h11_ h12_ h13_ h14_ h15_ h16_ h17_ h18_ h19_ h20_ h21_ h22_
   have hHeld : CS6 w19 gb252 (.int .u8 a0_0) (.slice A0_1 l0_1.length c0_1) (.slice A0_2 l0_2.length c0_2) (.slice A0_3 l0_3.length c0_3) (.slice A0_4 l0_4.length c0_4) (.slice A0_5 l0_5.length c0_5) (CE6 w19 gb253 (.int .u8 a1_0) (.slice A1_1 l1_1.length c1_1) (.slice A1_2 l1_2.length c1_2) (.slice A1_3 l1_3.length c1_3) (.slice A1_4 l1_4.length c1_4) (.slice A1_5 l1_5.length c1_5)) := hS_
   obtain ⟨Ao20, co20, eo20⟩ := Kd.S_slice HO257.out
   (first | subst eo20 | (injection eo20 with f1_ f2_ f3_; have f4_ := f1_.symm; have f5_ := f3_.symm; clear f1_ f2_ f3_; subst f4_; subst f5_))
   obtain ⟨Ao22, co22, eo22⟩ := Kd.S_slice HO260.out
   (first | subst eo22 | (injection eo22 with f1_ f2_ f3_; have f4_ := f1_.symm; have f5_ := f3_.symm; clear f1_ f2_ f3_; subst f4_; subst f5_))
   obtain ⟨Ao24, co24, eo24⟩ := Kd.S_slice HO263.out
   (first | subst eo24 | (injection eo24 with f1_ f2_ f3_; have f4_ := f1_.symm; have f5_ := f3_.symm; clear f1_ f2_ f3_; subst f4_; subst f5_))
   obtain ⟨Ao26, co26, eo26⟩ := Kd.S_slice HO266.out
   (first | subst eo26 | (injection eo26 with f1_ f2_ f3_; have f4_ := f1_.symm; have f5_ := f3_.symm; clear f1_ f2_ f3_; subst f4_; subst f5_))
   refine norm_ (a' := ?_) ?_ ?_
   rotate_left
   ·simp only [putAll, Act.put, List.setIfInBounds_toArray, List.set_cons_zero, List.set_cons_succ]
    rfl
   refine on HT_ 6 (none) (mk 8 127) fun K hK => ?_
   have hs21 : w19.cell? ⟨gb267, 0, none⟩ = some (.slice none 0 0) := (blk_cell BK267.out 0).trans rfl
   have hfs21 := blk_frozen BK267.out 0
   have hns21_0 := NB252_267.out
   have hns21_1 := NB253_267.out
   have hns21_3 := NB268_267.out
   have hms21_0 := NB267_252.out
   have hms21_1 := NB267_253.out
   have hms21_3 := NB267_268.out
   have hs23 : w19.cell? ⟨gb267, 1, none⟩ = some (.slice none 0 0) := (blk_cell BK267.out 1).trans rfl
   have hfs23 := blk_frozen BK267.out 1
   have hns23_0 := NB252_267.out
   have hns23_1 := NB253_267.out
   have hns23_3 := NB268_267.out
   have hms23_0 := NB267_252.out
   have hms23_1 := NB267_253.out
   have hms23_3 := NB267_268.out
   refine skip_ (w1 := ?_) (by rfl) rfl ?_ ?_
   rotate_left
   ·go_simp
    rfl
   refine hK.out _ _ ⟨((cell_far (p := ⟨gb267, _, none⟩) NB252_267.out _).trans (((cell_far (p := ⟨gb267, _, none⟩) NB252_267.out _).trans (hHeld.1)))), ((cell_far (p := ⟨gb267, _, none⟩) NB252_267.out _).trans (((cell_far (p := ⟨gb267, _, none⟩) NB252_267.out _).trans (hHeld.2.1)))), ((cell_far (p := ⟨gb267, _, none⟩) NB252_267.out _).trans (((cell_far (p := ⟨gb267, _, none⟩) NB252_267.out _).trans (hHeld.2.2.1)))), ((cell_far (p := ⟨gb267, _, none⟩) NB252_267.out _).trans (((cell_far (p := ⟨gb267, _, none⟩) NB252_267.out _).trans (hHeld.2.2.2.1)))), ((cell_far (p := ⟨gb267, _, none⟩) NB252_267.out _).trans (((cell_far (p := ⟨gb267, _, none⟩) NB252_267.out _).trans (hHeld.2.2.2.2.1)))), ((cell_far (p := ⟨gb267, _, none⟩) NB252_267.out _).trans (((cell_far (p := ⟨gb267, _, none⟩) NB252_267.out _).trans (hHeld.2.2.2.2.2.1)))), ((cell_far (p := ⟨gb267, _, none⟩) NB253_267.out _).trans (((cell_far (p := ⟨gb267, _, none⟩) NB253_267.out _).trans (hHeld.2.2.2.2.2.2.1)))), ((cell_far (p := ⟨gb267, _, none⟩) NB253_267.out _).trans (((cell_far (p := ⟨gb267, _, none⟩) NB253_267.out _).trans (hHeld.2.2.2.2.2.2.2.1)))), ((cell_far (p := ⟨gb267, _, none⟩) NB253_267.out _).trans (((cell_far (p := ⟨gb267, _, none⟩) NB253_267.out _).trans (hHeld.2.2.2.2.2.2.2.2.1)))), ((cell_far (p := ⟨gb267, _, none⟩) NB253_267.out _).trans (((cell_far (p := ⟨gb267, _, none⟩) NB253_267.out _).trans (hHeld.2.2.2.2.2.2.2.2.2.1)))), ((cell_far (p := ⟨gb267, _, none⟩) NB253_267.out _).trans (((cell_far (p := ⟨gb267, _, none⟩) NB253_267.out _).trans (hHeld.2.2.2.2.2.2.2.2.2.2.1)))), ((cell_far (p := ⟨gb267, _, none⟩) NB253_267.out _).trans (((cell_far (p := ⟨gb267, _, none⟩) NB253_267.out _).trans (hHeld.2.2.2.2.2.2.2.2.2.2.2))))⟩ (fun hHeld => ?_)
   clear hK K
   refine on HT_ 7 (none) (mk 8 255) fun K hK => ?_
   have hs25 : w19.cell? ⟨gb268, 0, none⟩ = some (.slice none 0 0) := (blk_cell BK268.out 0).trans rfl
   have hfs25 := blk_frozen BK268.out 0
   have hns25_0 := NB252_268.out
   have hns25_1 := NB253_268.out
   have hns25_2 := NB267_268.out
   have hms25_0 := NB268_252.out
   have hms25_1 := NB268_253.out
   have hms25_2 := NB268_267.out
   have hs27 : w19.cell? ⟨gb268, 1, none⟩ = some (.slice none 0 0) := (blk_cell BK268.out 1).trans rfl
   have hfs27 := blk_frozen BK268.out 1
   have hns27_0 := NB252_268.out
   have hns27_1 := NB253_268.out
   have hns27_2 := NB267_268.out
   have hms27_0 := NB268_252.out
   have hms27_1 := NB268_253.out
   have hms27_2 := NB268_267.out
   refine skip_ (w1 := ?_) (by rfl) rfl ?_ ?_
   rotate_left
   ·go_simp
    rfl
   refine hK.out _ _ ⟨((cell_far (p := ⟨gb268, _, none⟩) NB252_268.out _).trans (((cell_far (p := ⟨gb268, _, none⟩) NB252_268.out _).trans (hHeld.1)))), ((cell_far (p := ⟨gb268, _, none⟩) NB252_268.out _).trans (((cell_far (p := ⟨gb268, _, none⟩) NB252_268.out _).trans (hHeld.2.1)))), ((cell_far (p := ⟨gb268, _, none⟩) NB252_268.out _).trans (((cell_far (p := ⟨gb268, _, none⟩) NB252_268.out _).trans (hHeld.2.2.1)))), ((cell_far (p := ⟨gb268, _, none⟩) NB252_268.out _).trans (((cell_far (p := ⟨gb268, _, none⟩) NB252_268.out _).trans (hHeld.2.2.2.1)))), ((cell_far (p := ⟨gb268, _, none⟩) NB252_268.out _).trans (((cell_far (p := ⟨gb268, _, none⟩) NB252_268.out _).trans (hHeld.2.2.2.2.1)))), ((cell_far (p := ⟨gb268, _, none⟩) NB252_268.out _).trans (((cell_far (p := ⟨gb268, _, none⟩) NB252_268.out _).trans (hHeld.2.2.2.2.2.1)))), ((cell_far (p := ⟨gb268, _, none⟩) NB253_268.out _).trans (((cell_far (p := ⟨gb268, _, none⟩) NB253_268.out _).trans (hHeld.2.2.2.2.2.2.1)))), ((cell_far (p := ⟨gb268, _, none⟩) NB253_268.out _).trans (((cell_far (p := ⟨gb268, _, none⟩) NB253_268.out _).trans (hHeld.2.2.2.2.2.2.2.1)))), ((cell_far (p := ⟨gb268, _, none⟩) NB253_268.out _).trans (((cell_far (p := ⟨gb268, _, none⟩) NB253_268.out _).trans (hHeld.2.2.2.2.2.2.2.2.1)))), ((cell_far (p := ⟨gb268, _, none⟩) NB253_268.out _).trans (((cell_far (p := ⟨gb268, _, none⟩) NB253_268.out _).trans (hHeld.2.2.2.2.2.2.2.2.2.1)))), ((cell_far (p := ⟨gb268, _, none⟩) NB253_268.out _).trans (((cell_far (p := ⟨gb268, _, none⟩) NB253_268.out _).trans (hHeld.2.2.2.2.2.2.2.2.2.2.1)))), ((cell_far (p := ⟨gb268, _, none⟩) NB253_268.out _).trans (((cell_far (p := ⟨gb268, _, none⟩) NB253_268.out _).trans (hHeld.2.2.2.2.2.2.2.2.2.2.2))))⟩ (fun hHeld => ?_)
   clear hK K
   refine done_ (done_of HT_.out (by kernel_rfl)) ?_
   try go_wp2
   have n0_ : Aside0 (Kd.S k36 36 ((((w19.setCell ⟨gb267, 0, none⟩ (.slice Ao20 t255.length co20)).setCell ⟨gb267, 1, none⟩ (.slice Ao22 t258.length co22)).setCell ⟨gb268, 0, none⟩ (.slice Ao24 t261.length co24)).setCell ⟨gb268, 1, none⟩ (.slice Ao26 t264.length co26)) w.heap.size (fun k_ => some k_ ≠ (.slice Ao24 t261.length co24 : Value).ownBlock) (.slice Ao20 t255.length co20) t255) := ⟨by (with_reducible repeat (first | apply Kd.S_alloc | apply Kd.S_drewN | apply Kd.S_drew)); exact Kd.S_mono (Kd.S_far (p := ⟨gb268, 1, none⟩) (Kd.S_far (p := ⟨gb268, 0, none⟩) (Kd.S_far (p := ⟨gb267, 1, none⟩) (Kd.S_far (p := ⟨gb267, 0, none⟩) (Kd.S_types (Kd.S_types HO257.out BK267.out (by decide)) BK268.out (by decide)) (fun _ hk => hk.1.2) (.slice Ao20 t255.length co20)) (fun _ hk => hk.1.2) (.slice Ao22 t258.length co22)) (fun _ hk => hk.2) (.slice Ao24 t261.length co24)) (fun _ hk => hk.2) (.slice Ao26 t264.length co26)) (fun _ hk => hk.1.1)⟩
   have n1_ : Aside0 (Kd.S k46 46 ((((w19.setCell ⟨gb267, 0, none⟩ (.slice Ao20 t255.length co20)).setCell ⟨gb267, 1, none⟩ (.slice Ao22 t258.length co22)).setCell ⟨gb268, 0, none⟩ (.slice Ao24 t261.length co24)).setCell ⟨gb268, 1, none⟩ (.slice Ao26 t264.length co26)) w.heap.size (fun k_ => some k_ ≠ (.slice Ao26 t264.length co26 : Value).ownBlock) (.slice Ao22 t258.length co22) t258) := ⟨by (with_reducible repeat (first | apply Kd.S_alloc | apply Kd.S_drewN | apply Kd.S_drew)); exact Kd.S_mono (Kd.S_far (p := ⟨gb268, 1, none⟩) (Kd.S_far (p := ⟨gb268, 0, none⟩) (Kd.S_far (p := ⟨gb267, 1, none⟩) (Kd.S_far (p := ⟨gb267, 0, none⟩) (Kd.S_types (Kd.S_types HO260.out BK267.out (by decide)) BK268.out (by decide)) (fun _ hk => hk.1.2) (.slice Ao20 t255.length co20)) (fun _ hk => hk.1.2) (.slice Ao22 t258.length co22)) (fun _ hk => hk.2) (.slice Ao24 t261.length co24)) (fun _ hk => hk.2) (.slice Ao26 t264.length co26)) (fun _ hk => hk.1.1)⟩
   have n2_ : Aside0 (Kd.S k36 36 ((((w19.setCell ⟨gb267, 0, none⟩ (.slice Ao20 t255.length co20)).setCell ⟨gb267, 1, none⟩ (.slice Ao22 t258.length co22)).setCell ⟨gb268, 0, none⟩ (.slice Ao24 t261.length co24)).setCell ⟨gb268, 1, none⟩ (.slice Ao26 t264.length co26)) w.heap.size (fun k_ => some k_ ≠ (.slice Ao20 t255.length co20 : Value).ownBlock) (.slice Ao24 t261.length co24) t261) := ⟨by (with_reducible repeat (first | apply Kd.S_alloc | apply Kd.S_drewN | apply Kd.S_drew)); exact Kd.S_mono (Kd.S_far (p := ⟨gb268, 1, none⟩) (Kd.S_far (p := ⟨gb268, 0, none⟩) (Kd.S_far (p := ⟨gb267, 1, none⟩) (Kd.S_far (p := ⟨gb267, 0, none⟩) (Kd.S_types (Kd.S_types HO263.out BK267.out (by decide)) BK268.out (by decide)) (fun _ hk => hk.1.2) (.slice Ao20 t255.length co20)) (fun _ hk => hk.1.2) (.slice Ao22 t258.length co22)) (fun _ hk => hk.2) (.slice Ao24 t261.length co24)) (fun _ hk => hk.2) (.slice Ao26 t264.length co26)) (fun _ hk => hk.1.1)⟩
   have n3_ : Aside0 (Kd.S k46 46 ((((w19.setCell ⟨gb267, 0, none⟩ (.slice Ao20 t255.length co20)).setCell ⟨gb267, 1, none⟩ (.slice Ao22 t258.length co22)).setCell ⟨gb268, 0, none⟩ (.slice Ao24 t261.length co24)).setCell ⟨gb268, 1, none⟩ (.slice Ao26 t264.length co26)) w.heap.size (fun k_ => some k_ ≠ (.slice Ao22 t258.length co22 : Value).ownBlock) (.slice Ao26 t264.length co26) t264) := ⟨by (with_reducible repeat (first | apply Kd.S_alloc | apply Kd.S_drewN | apply Kd.S_drew)); exact Kd.S_mono (Kd.S_far (p := ⟨gb268, 1, none⟩) (Kd.S_far (p := ⟨gb268, 0, none⟩) (Kd.S_far (p := ⟨gb267, 1, none⟩) (Kd.S_far (p := ⟨gb267, 0, none⟩) (Kd.S_types (Kd.S_types HO266.out BK267.out (by decide)) BK268.out (by decide)) (fun _ hk => hk.1.2) (.slice Ao20 t255.length co20)) (fun _ hk => hk.1.2) (.slice Ao22 t258.length co22)) (fun _ hk => hk.2) (.slice Ao24 t261.length co24)) (fun _ hk => hk.2) (.slice Ao26 t264.length co26)) (fun _ hk => hk.1.1)⟩
   have n4_ : Aside0 (((((w19.setCell ⟨gb267, 0, none⟩ (.slice Ao20 t255.length co20)).setCell ⟨gb267, 1, none⟩ (.slice Ao22 t258.length co22)).setCell ⟨gb268, 0, none⟩ (.slice Ao24 t261.length co24)).setCell ⟨gb268, 1, none⟩ (.slice Ao26 t264.length co26)).heap[gb252]? = some (.cells #[.int .u8 a0_0, .slice A0_1 l0_1.length c0_1, .slice A0_2 l0_2.length c0_2, .slice A0_3 l0_3.length c0_3, .slice A0_4 l0_4.length c0_4, .slice A0_5 l0_5.length c0_5] 25 (0, 0))) := ⟨bkq BK252⟩
   have n5_ : Aside0 (((((w19.setCell ⟨gb267, 0, none⟩ (.slice Ao20 t255.length co20)).setCell ⟨gb267, 1, none⟩ (.slice Ao22 t258.length co22)).setCell ⟨gb268, 0, none⟩ (.slice Ao24 t261.length co24)).setCell ⟨gb268, 1, none⟩ (.slice Ao26 t264.length co26)).heap[gb253]? = some (.cells #[.int .u8 a1_0, .slice A1_1 l1_1.length c1_1, .slice A1_2 l1_2.length c1_2, .slice A1_3 l1_3.length c1_3, .slice A1_4 l1_4.length c1_4, .slice A1_5 l1_5.length c1_5] 25 (0, 0))) := ⟨bkq BK253⟩
   have n6_ : Aside0 (((((w19.setCell ⟨gb267, 0, none⟩ (.slice Ao20 t255.length co20)).setCell ⟨gb267, 1, none⟩ (.slice Ao22 t258.length co22)).setCell ⟨gb268, 0, none⟩ (.slice Ao24 t261.length co24)).setCell ⟨gb268, 1, none⟩ (.slice Ao26 t264.length co26)).heap[gb267]? = some (.cells #[.slice Ao20 t255.length co20, .slice Ao22 t258.length co22] 30 (0, 0))) := ⟨bkp BK267⟩
   have n7_ : Aside0 (((((w19.setCell ⟨gb267, 0, none⟩ (.slice Ao20 t255.length co20)).setCell ⟨gb267, 1, none⟩ (.slice Ao22 t258.length co22)).setCell ⟨gb268, 0, none⟩ (.slice Ao24 t261.length co24)).setCell ⟨gb268, 1, none⟩ (.slice Ao26 t264.length co26)).heap[gb268]? = some (.cells #[.slice Ao24 t261.length co24, .slice Ao26 t264.length co26] 30 (0, 0))) := ⟨bkp BK268⟩
   have n8_ : Aside0 (Below w.heap.size w ((((w19.setCell ⟨gb267, 0, none⟩ (.slice Ao20 t255.length co20)).setCell ⟨gb267, 1, none⟩ (.slice Ao22 t258.length co22)).setCell ⟨gb268, 0, none⟩ (.slice Ao24 t261.length co24)).setCell ⟨gb268, 1, none⟩ (.slice Ao26 t264.length co26))) := ⟨by repeat (first | (with_reducible first | exact HB.out | apply below_alloc | apply pw_below_drewN | apply below_drew1 | refine below_set ?_ GE252.out | refine below_set ?_ GE253.out | refine below_set ?_ GE267.out | refine below_set ?_ GE268.out) | exact HB.out)⟩
   (try clear HO257)
   (try clear HO260)
   (try clear HO263)
   (try clear HO266)
   (try clear BK252)
   (try clear BK253)
   (try clear BK267)
   (try clear BK268)
   (try clear HB)
   generalize ((((w19.setCell ⟨gb267, 0, none⟩ (.slice Ao20 t255.length co20)).setCell ⟨gb267, 1, none⟩ (.slice Ao22 t258.length co22)).setCell ⟨gb268, 0, none⟩ (.slice Ao24 t261.length co24)).setCell ⟨gb268, 1, none⟩ (.slice Ao26 t264.length co26)) = w28 at n0_ n1_ n2_ n3_ n4_ n5_ n6_ n7_ n8_ ⊢
   have HO257 := n0_
   have HO260 := n1_
   have HO263 := n2_
   have HO266 := n3_
   have BK252 := n4_
   have BK253 := n5_
   have BK267 := n6_
   have BK268 := n7_
   have HB := n8_
   clear n0_ n1_ n2_ n3_ n4_ n5_ n6_ n7_ n8_
   replace HO257 := Aside0.mk (Kd.S_drew HO257.out)
   replace HO260 := Aside0.mk (Kd.S_drew HO260.out)
   replace HO263 := Aside0.mk (Kd.S_drew HO263.out)
   replace HO266 := Aside0.mk (Kd.S_drew HO266.out)
   replace BK252 := Aside0.mk (blk_drew BK252.out)
   replace BK253 := Aside0.mk (blk_drew BK253.out)
   replace BK267 := Aside0.mk (blk_drew BK267.out)
   replace BK268 := Aside0.mk (blk_drew BK268.out)
   replace HB := Aside0.mk (below_drew1 HB.out)
   refine start_ (n := 17) (S := fun w' => CS2 w' gb267 (.slice Ao20 t255.length co20) (.slice Ao22 t258.length co22) (CE2 w' gb268 (.slice Ao24 t261.length co24) (.slice Ao26 t264.length co26))) (ds := []) #[false, false, false, false, false, false, false, false, false, false, false, false, false, false, false, false, false] (by kernel_rfl) rfl rfl (hs2 BK267 (he2 BK268)) (fun hHeld => ?_); refine with_tabW maquettelaw07_TextParts.tab4 maquettelaw07_TextParts.bits4 (fun HT_ HW_ => ?_)
   generalize w28.drew = w29 at HO257 HO260 HO263 HO266 BK252 BK253 BK267 BK268 HB hHeld ⊢
   refine pu HT_ 0 (some 13) (mk 17 1) ?_
   refine pu HT_ 2 (some 15) (mk 17 5) ?_
   refine pu HT_ 6 (some 19) (mk 17 69) ?_
   refine pu HT_ 10 (some 23) (mk 17 1093) ?_
   refine tk HT_ HW_ 1 (some 14) (mk 17 1095) hHeld ?_
   refine tk HT_ HW_ 3 (some 16) (mk 17 1103) hHeld ?_
   refine pu HT_ 4 (some 17) (mk 17 1119) ?_
   refine tk HT_ HW_ 7 (some 20) (mk 17 1247) hHeld ?_
   refine pu HT_ 8 (some 21) (mk 17 1503) ?_
   refine tk HT_ HW_ 11 (some 24) (mk 17 3551) hHeld ?_
   refine pu HT_ 12 (some 25) (mk 17 7647) ?_
   refine on HT_ 5 (some 18) (mk 17 7679) fun K hK => ?_
   refine go1 Tryd.func10 #[.agg #[.slice Ao20 t255.length co20, .slice Ao26 t264.length co26]] ?_
   with_reducible refine (text_Config.calls k _ _ t255 _ _ t264 t269 _ ?side1 ?side2 ?side3 ?side4 A7.out (Go.Proofs.YtjcopneljfcfoaaDoor.Inv.ivb hInv)).mono ?_
   (case side1 => repeat (first | exact (Kd.S_reads' HO257.out).2.2 | (with_reducible refine Kd.C_alloc ?_ _) | (with_reducible refine Kd.C_drewN ?_ _) | (with_reducible refine Kd.C_drew ?_)))
   (case side2 => exact (Kd.S_reads' HO257.out).2.1)
   (case side3 => repeat (first | exact (Kd.S_reads' HO266.out).2.2 | (with_reducible refine Kd.C_alloc ?_ _) | (with_reducible refine Kd.C_drewN ?_ _) | (with_reducible refine Kd.C_drew ?_)))
   (case side4 => exact (Kd.S_reads' HO266.out).2.1)
   rintro e w30 ⟨rfl, hb⟩
   refine ⟨_, rfl, ?_⟩
   replace HO257 := Aside0.mk (Kd.S_below (kS HO257) hb)
   replace HO260 := Aside0.mk (Kd.S_below (kS HO260) hb)
   replace HO263 := Aside0.mk (Kd.S_below (kS HO263) hb)
   replace HO266 := Aside0.mk (Kd.S_below (kS HO266) hb)
   replace BK252 := bkb BK252 hb
   replace BK253 := bkb BK253 hb
   replace BK267 := bkb BK267 hb
   replace BK268 := bkb BK268 hb
   replace HB := bst hb
   (try clear hb)
   (try clear hb2)
   (try clear hk)
   (try clear hi)
   refine hK.out _ _ (hs2 BK267 (he2 BK268)) (fun hHeld => ?_)
   clear hK K
   refine nm (some 18) ?_
   refine on HT_ 9 (some 22) (mk 17 8191) fun K hK => ?_
   refine go1 Tryd.func10 #[.agg #[.slice Ao20 t255.length co20, .slice none 0 0]] ?_
   refine (text_Config.calls k _ _ t255 _ _ ([] : List (S46)) t270 _ ?side1 ?side2 ?side3 ?side4 A8.out (Go.Proofs.YtjcopneljfcfoaaDoor.Inv.ivb hInv)).mono ?_
   (case side1 => repeat (first | exact (Kd.S_reads' HO257.out).2.2 | (with_reducible refine Kd.C_alloc ?_ _) | (with_reducible refine Kd.C_drewN ?_ _) | (with_reducible refine Kd.C_drew ?_)))
   (case side2 => exact (Kd.S_reads' HO257.out).2.1)
   (case side3 => exact Kd.C_nil _ _)
   (case side4 => exact Nat.le_refl _)
   rintro e w31 ⟨rfl, hb⟩
   refine ⟨_, rfl, ?_⟩
   replace HO257 := Aside0.mk (Kd.S_below (kS HO257) hb)
   replace HO260 := Aside0.mk (Kd.S_below (kS HO260) hb)
   replace HO263 := Aside0.mk (Kd.S_below (kS HO263) hb)
   replace HO266 := Aside0.mk (Kd.S_below (kS HO266) hb)
   replace BK252 := bkb BK252 hb
   replace BK253 := bkb BK253 hb
   replace BK267 := bkb BK267 hb
   replace BK268 := bkb BK268 hb
   replace HB := bst hb
   (try clear hb)
   (try clear hb2)
   (try clear hk)
   (try clear hi)
   refine hK.out _ _ (hs2 BK267 (he2 BK268)) (fun hHeld => ?_)
   clear hK K
   refine nm (some 22) ?_
   refine on HT_ 13 (some 26) (mk 17 16383) fun K hK => ?_
   refine go1 Tryd.func10 #[.agg #[.slice none 0 0, .slice Ao26 t264.length co26]] ?_
   refine (text_Config.calls k _ _ ([] : List (S36)) _ _ t264 t271 _ ?side1 ?side2 ?side3 ?side4 A9.out (Go.Proofs.YtjcopneljfcfoaaDoor.Inv.ivb hInv)).mono ?_
   (case side1 => exact Kd.C_nil _ _)
   (case side2 => exact Nat.le_refl _)
   (case side3 => repeat (first | exact (Kd.S_reads' HO266.out).2.2 | (with_reducible refine Kd.C_alloc ?_ _) | (with_reducible refine Kd.C_drewN ?_ _) | (with_reducible refine Kd.C_drew ?_)))
   (case side4 => exact (Kd.S_reads' HO266.out).2.1)
   rintro e w32 ⟨rfl, hb⟩
   refine ⟨_, rfl, ?_⟩
   replace HO257 := Aside0.mk (Kd.S_below (kS HO257) hb)
   replace HO260 := Aside0.mk (Kd.S_below (kS HO260) hb)
   replace HO263 := Aside0.mk (Kd.S_below (kS HO263) hb)
   replace HO266 := Aside0.mk (Kd.S_below (kS HO266) hb)
   replace BK252 := bkb BK252 hb
   replace BK253 := bkb BK253 hb
   replace BK267 := bkb BK267 hb
   replace BK268 := bkb BK268 hb
   replace HB := bst hb
   (try clear hb)
   (try clear hb2)
   (try clear hk)
   (try clear hi)
   refine hK.out _ _ (hs2 BK267 (he2 BK268)) (fun hHeld => ?_)
   clear hK K
   refine nm (some 26) ?_
   refine pu HT_ 14 (some 27) (mk 17 32767) ?_
   refine pu HT_ 15 (some 28) (mk 17 65535) ?_
   refine pu HT_ 16 (some 4) (mk 17 131071) ?_
   refine done_ (done_of HT_.out (by kernel_rfl)) ?_
   try go_wp2
   go_ret
   exact ⟨by first | rfl | (simp [errW_none, errW_some] <;> rfl) | (simp [*, errW_none, errW_some] <;> rfl), by repeat (first | (with_reducible first | exact HB.out | apply below_alloc | apply pw_below_drewN | apply below_drew1 | refine below_set ?_ GE252.out | refine below_set ?_ GE253.out | refine below_set ?_ GE267.out | refine below_set ?_ GE268.out) | exact HB.out)⟩
  ·rw [if_neg c10] at H
   exact absurd H (by simp)
 ·replace c4 := Bool.eq_false_iff.mpr c4
  subst c4
  have H1 : (some false) = some r := by rw [if_neg (show ¬ (false = true) by decide)] at H; exact H
  clear H
  have H := H1
  clear H1
  obtain rfl := Option.some.inj H
  go_enter Tryd.func6, Tryd.ntmps6
  go_wp2_with (first | ((with_reducible refine gate_dst (N := 2) rfl ?_); refine bx 2 (cs := #[.int .u8 a0_0, .slice A0_1 l0_1.length c0_1, .slice A0_2 l0_2.length c0_2, .slice A0_3 l0_3.length c0_3, .slice A0_4 l0_4.length c0_4, .slice A0_5 l0_5.length c0_5]) (t := 25) (h := ?_); intro gb252 hg w33 hbox hb; have BK252 := Aside0.mk hbox; have GW252 : Aside0 (w.heap.size ≤ gb252) := bge hg; have GE252 : Aside0 (w.heap.size ≤ gb252) := bge hg; replace HB := bst hb; clear hb hbox hg) | ((with_reducible refine gate_dst (N := 3) rfl ?_); refine bx 3 (cs := #[.int .u8 a1_0, .slice A1_1 l1_1.length c1_1, .slice A1_2 l1_2.length c1_2, .slice A1_3 l1_3.length c1_3, .slice A1_4 l1_4.length c1_4, .slice A1_5 l1_5.length c1_5]) (t := 25) (h := ?_); intro gb253 hg w34 hbox hb; have BK253 := Aside0.mk hbox; have GW253 : Aside0 (w.heap.size ≤ gb253) := bge hg; have GE253 : Aside0 (w.heap.size ≤ gb253) := bge hg; have NB252_253 := bne BK252 hg; have NB253_252 := bnf BK252 hg; replace BK252 := bkb BK252 hb; replace HB := bst hb; clear hb hbox hg) | ((with_reducible refine gate_dst (N := 7) rfl ?_); refine gl (some 7) Tryd.func8 #[] ?_; (with_reducible refine (maquettelaw07_awake.calls k  false _ A3.out (Go.Proofs.YtjcopneljfcfoaaDoor.Inv.ivb hInv)).mono ?_); rintro e w35 ⟨rfl, hb⟩; refine ⟨_, rfl, ?_⟩; replace BK252 := bkb BK252 hb; replace BK253 := bkb BK253 hb; replace HB := bst hb; (try clear hb); (try clear hb2); (try clear hk); (try clear hi)))
  go_ret
  exact ⟨by first | rfl | (simp [errW_none, errW_some] <;> rfl) | (simp [*, errW_none, errW_some] <;> rfl), by repeat (first | (with_reducible first | exact HB.out | apply below_alloc | apply pw_below_drewN | apply below_drew1 | refine below_set ?_ GE252.out | refine below_set ?_ GE253.out) | exact HB.out)⟩

end Go.Proofs.YtjcopneljfcfoaaDoor.PRaw
