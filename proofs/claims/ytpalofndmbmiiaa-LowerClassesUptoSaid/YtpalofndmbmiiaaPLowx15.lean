-- Written by wip/xprint.py of this work: the printer of the kit, with contracts of this work beside it, shortened.
import Derived.Test.YtpalofndmbmiiaaShort
import Derived.Test.YtpalofndmbmiiaaPLowx0
import Derived.Test.YtpalofndmbmiiaaPLowx1
import Derived.Test.YtpalofndmbmiiaaPLowx4
import Derived.Test.YtpalofndmbmiiaaPLowx11
import Derived.Test.YtpalofndmbmiiaaJ1
import Derived.Test.YtpalofndmbmiiaaPLowx14
namespace Go.Proofs.Ytpalofndmbmiiaa.PLow
open Go.RowKit Go.Proofs.Ytpalofndmbmiiaa.Short Go.Proofs.YtpalofndmbmiiaaW.PrintWords Go.Proofs.YtpalofndmbmiiaaW.PrintLast Go.Proofs.YtpalofndmbmiiaaW.PrintMore
attribute [local go_sem] max2_int min2_int max_two min_two max_three min_three max_four min_four   -- for this text's walks alone
set_option linter.unusedVariables false
set_option linter.unusedSimpArgs false

attribute [local go_sem high] eqA42
/-! ### maquettelaw13_LowerClasses: function 5 -/
mutual
def maquettelaw13_LowerClasses.l0 : Nat → List (S30) → Int → Int → Option (Bool)
 | 0, _, _, _ => none
 | k + 1, x27, x28, x29 => if x29 < x28 then (if 0 ≤ x29 then (if x29 < (x27.length : Int) then ((lower_Classes.f ((rd_T30 x27 x29).f0) ((rd_T30 x27 x29).f1)).bind fun t220 => (maquettelaw13_LowerClasses.l1 k t220 x27 x28 x29 t220 (t220.length : Int) 0 ((rd_T30 x27 x29).f0) ((rd_T30 x27 x29).f1))) else (none)) else (none)) else (some true)
def maquettelaw13_LowerClasses.l1 : Nat → List (S42) → List (S30) → Int → Int → List (S42) → Int → Int → List (S63) → List (S36) → Option (Bool)
 | 0, _, _, _, _, _, _, _, _, _ => none
 | k + 1, x7, x27, x28, x29, x35, x36, x37, x220000, x220001 => if x37 < x36 then (if 0 ≤ x37 then (if x37 < (x35.length : Int) then (if x37 > 0 then (if 0 ≤ (wrap64 (x37 - 1)) then (if (wrap64 (x37 - 1)) < (x7.length : Int) then ((prefix_Less.f ((rd_T42 x7 (wrap64 (x37 - 1))).f0) ((rd_T42 x7 (wrap64 (x37 - 1))).f1) ((rd_T42 x35 x37).f0) ((rd_T42 x35 x37).f1)).bind fun t226 => (maquettelaw13_LowerClasses.j2 k x7 x27 x28 x29 x35 x36 x37 (!t226) x220000 x220001 ((rd_T42 x35 x37).f0) ((rd_T42 x35 x37).f1))) else (none)) else (none)) else (maquettelaw13_LowerClasses.j2 k x7 x27 x28 x29 x35 x36 x37 false x220000 x220001 ((rd_T42 x35 x37).f0) ((rd_T42 x35 x37).f1))) else (none)) else (none)) else (maquettelaw13_LowerClasses.l4 k x7 x27 x28 x29 x220001 (x220001.length : Int) 0)
def maquettelaw13_LowerClasses.j2 : Nat → List (S42) → List (S30) → Int → Int → List (S42) → Int → Int → Bool → List (S63) → List (S36) → Int → Int → Option (Bool)
 | 0, _, _, _, _, _, _, _, _, _, _, _, _ => none
 | k + 1, x7, x27, x28, x29, x35, x36, x37, x53, x220000, x220001, x225000, x225001 => if x53 = true then (some false) else (maquettelaw13_LowerClasses.l2 k x7 false x27 x28 x29 x35 x36 x37 x220001 (x220001.length : Int) 0 x220000 x220001 x225000 x225001)
def maquettelaw13_LowerClasses.l2 : Nat → List (S42) → Bool → List (S30) → Int → Int → List (S42) → Int → Int → List (S36) → Int → Int → List (S63) → List (S36) → Int → Int → Option (Bool)
 | 0, _, _, _, _, _, _, _, _, _, _, _, _, _, _, _ => none
 | k + 1, x7, x10, x27, x28, x29, x35, x36, x37, x55, x56, x57, x220000, x220001, x225000, x225001 => if x57 < x56 then (if 0 ≤ x57 then (if x57 < (x55.length : Int) then (maquettelaw13_LowerClasses.l3 k x7 x10 x27 x28 x29 x35 x36 x37 x55 x56 x57 ((rd_T36 x55 x57).f1) (((rd_T36 x55 x57).f1).length : Int) 0 x220000 x220001 x225000 x225001) else (none)) else (none)) else (if x10 = true then (maquettelaw13_LowerClasses.l1 k x7 x27 x28 x29 x35 x36 (wrap64 (x37 + 1)) x220000 x220001) else (some false))
def maquettelaw13_LowerClasses.l3 : Nat → List (S42) → Bool → List (S30) → Int → Int → List (S42) → Int → Int → List (S36) → Int → Int → List (S42) → Int → Int → List (S63) → List (S36) → Int → Int → Option (Bool)
 | 0, _, _, _, _, _, _, _, _, _, _, _, _, _, _, _, _, _, _ => none
 | k + 1, x7, x10, x27, x28, x29, x35, x36, x37, x55, x56, x57, x62, x63, x64, x220000, x220001, x225000, x225001 => if x64 < x63 then (if 0 ≤ x64 then (if x64 < (x62.length : Int) then (if x10 = true then (maquettelaw13_LowerClasses.l3 k x7 true x27 x28 x29 x35 x36 x37 x55 x56 x57 x62 x63 (wrap64 (x64 + 1)) x220000 x220001 x225000 x225001) else (maquettelaw13_LowerClasses.l3 k x7 (x225000 == ((rd_T42 x62 x64).f0) && (x225001 == ((rd_T42 x62 x64).f1))) x27 x28 x29 x35 x36 x37 x55 x56 x57 x62 x63 (wrap64 (x64 + 1)) x220000 x220001 x225000 x225001)) else (none)) else (none)) else (maquettelaw13_LowerClasses.l2 k x7 x10 x27 x28 x29 x35 x36 x37 x55 x56 (wrap64 (x57 + 1)) x220000 x220001 x225000 x225001)
def maquettelaw13_LowerClasses.l4 : Nat → List (S42) → List (S30) → Int → Int → List (S36) → Int → Int → Option (Bool)
 | 0, _, _, _, _, _, _, _ => none
 | k + 1, x7, x27, x28, x29, x80, x81, x82 => if x82 < x81 then (if 0 ≤ x82 then (if x82 < (x80.length : Int) then (maquettelaw13_LowerClasses.l5 k x7 x27 x28 x29 x80 x81 x82 ((rd_T36 x80 x82).f1) (((rd_T36 x80 x82).f1).length : Int) 0) else (none)) else (none)) else (maquettelaw13_LowerClasses.l0 k x27 x28 (wrap64 (x29 + 1)))
def maquettelaw13_LowerClasses.l5 : Nat → List (S42) → List (S30) → Int → Int → List (S36) → Int → Int → List (S42) → Int → Int → Option (Bool)
 | 0, _, _, _, _, _, _, _, _, _, _ => none
 | k + 1, x7, x27, x28, x29, x80, x81, x82, x87, x88, x89 => if x89 < x88 then (if 0 ≤ x89 then (if x89 < (x87.length : Int) then (maquettelaw13_LowerClasses.l6 k x7 false x27 x28 x29 x80 x81 x82 x87 x88 x89 x7 (x7.length : Int) 0 ((rd_T42 x87 x89).f0) ((rd_T42 x87 x89).f1)) else (none)) else (none)) else (maquettelaw13_LowerClasses.l4 k x7 x27 x28 x29 x80 x81 (wrap64 (x82 + 1)))
def maquettelaw13_LowerClasses.l6 : Nat → List (S42) → Bool → List (S30) → Int → Int → List (S36) → Int → Int → List (S42) → Int → Int → List (S42) → Int → Int → Int → Int → Option (Bool)
 | 0, _, _, _, _, _, _, _, _, _, _, _, _, _, _, _, _ => none
 | k + 1, x7, x19, x27, x28, x29, x80, x81, x82, x87, x88, x89, x93, x94, x95, x235000, x235001 => if x95 < x94 then (if 0 ≤ x95 then (if x95 < (x93.length : Int) then (if x19 = true then (maquettelaw13_LowerClasses.l6 k x7 true x27 x28 x29 x80 x81 x82 x87 x88 x89 x93 x94 (wrap64 (x95 + 1)) x235000 x235001) else (maquettelaw13_LowerClasses.l6 k x7 (((rd_T42 x93 x95).f0) == x235000 && (((rd_T42 x93 x95).f1) == x235001)) x27 x28 x29 x80 x81 x82 x87 x88 x89 x93 x94 (wrap64 (x95 + 1)) x235000 x235001)) else (none)) else (none)) else (if x19 = true then (maquettelaw13_LowerClasses.l5 k x7 x27 x28 x29 x80 x81 x82 x87 x88 (wrap64 (x89 + 1))) else (some false))
end
def maquettelaw13_LowerClasses.f (k : Nat) (a0_0 : Int) (l0_1 : List Int) (l0_2 : List (List (S81))) (l0_3 : List Int) (l0_4 : List Int) (l0_5 : List Int) (l1_0 : List (S63)) (l1_1 : List (S36)) : Option (Bool) := (maquettelaw13_awake.f).bind fun t208 => (if t208 = true then ((maquettelaw07_Shape_Config.f k a0_0 l0_1 l0_2 l0_3 l0_4 l0_5).bind fun bt209 => ((some (([(⟨bt209.1, bt209.2⟩ : S30), (⟨l1_0, l1_1⟩ : S30)] : List (S30)) : List (S30))).bind fun y215 => (maquettelaw13_LowerClasses.l0 k y215 (y215.length : Int) 0))) else (some false))
theorem maquettelaw13_LowerClasses.mono_l : ∀ k, (∀ y0 y1 y2, LeO (maquettelaw13_LowerClasses.l0 k y0 y1 y2) (maquettelaw13_LowerClasses.l0 (k + 1) y0 y1 y2)) ∧ (∀ y0 y1 y2 y3 y4 y5 y6 y7 y8, LeO (maquettelaw13_LowerClasses.l1 k y0 y1 y2 y3 y4 y5 y6 y7 y8) (maquettelaw13_LowerClasses.l1 (k + 1) y0 y1 y2 y3 y4 y5 y6 y7 y8)) ∧ (∀ y0 y1 y2 y3 y4 y5 y6 y7 y8 y9 y10 y11, LeO (maquettelaw13_LowerClasses.j2 k y0 y1 y2 y3 y4 y5 y6 y7 y8 y9 y10 y11) (maquettelaw13_LowerClasses.j2 (k + 1) y0 y1 y2 y3 y4 y5 y6 y7 y8 y9 y10 y11)) ∧ (∀ y0 y1 y2 y3 y4 y5 y6 y7 y8 y9 y10 y11 y12 y13 y14, LeO (maquettelaw13_LowerClasses.l2 k y0 y1 y2 y3 y4 y5 y6 y7 y8 y9 y10 y11 y12 y13 y14) (maquettelaw13_LowerClasses.l2 (k + 1) y0 y1 y2 y3 y4 y5 y6 y7 y8 y9 y10 y11 y12 y13 y14)) ∧ (∀ y0 y1 y2 y3 y4 y5 y6 y7 y8 y9 y10 y11 y12 y13 y14 y15 y16 y17, LeO (maquettelaw13_LowerClasses.l3 k y0 y1 y2 y3 y4 y5 y6 y7 y8 y9 y10 y11 y12 y13 y14 y15 y16 y17) (maquettelaw13_LowerClasses.l3 (k + 1) y0 y1 y2 y3 y4 y5 y6 y7 y8 y9 y10 y11 y12 y13 y14 y15 y16 y17)) ∧ (∀ y0 y1 y2 y3 y4 y5 y6, LeO (maquettelaw13_LowerClasses.l4 k y0 y1 y2 y3 y4 y5 y6) (maquettelaw13_LowerClasses.l4 (k + 1) y0 y1 y2 y3 y4 y5 y6)) ∧ (∀ y0 y1 y2 y3 y4 y5 y6 y7 y8 y9, LeO (maquettelaw13_LowerClasses.l5 k y0 y1 y2 y3 y4 y5 y6 y7 y8 y9) (maquettelaw13_LowerClasses.l5 (k + 1) y0 y1 y2 y3 y4 y5 y6 y7 y8 y9)) ∧ (∀ y0 y1 y2 y3 y4 y5 y6 y7 y8 y9 y10 y11 y12 y13 y14 y15, LeO (maquettelaw13_LowerClasses.l6 k y0 y1 y2 y3 y4 y5 y6 y7 y8 y9 y10 y11 y12 y13 y14 y15) (maquettelaw13_LowerClasses.l6 (k + 1) y0 y1 y2 y3 y4 y5 y6 y7 y8 y9 y10 y11 y12 y13 y14 y15))
 | 0 => ⟨fun _ _ _ r h => by simp [maquettelaw13_LowerClasses.l0] at h, fun _ _ _ _ _ _ _ _ _ r h => by simp [maquettelaw13_LowerClasses.l1] at h, fun _ _ _ _ _ _ _ _ _ _ _ _ r h => by simp [maquettelaw13_LowerClasses.j2] at h, fun _ _ _ _ _ _ _ _ _ _ _ _ _ _ _ r h => by simp [maquettelaw13_LowerClasses.l2] at h, fun _ _ _ _ _ _ _ _ _ _ _ _ _ _ _ _ _ _ r h => by simp [maquettelaw13_LowerClasses.l3] at h, fun _ _ _ _ _ _ _ r h => by simp [maquettelaw13_LowerClasses.l4] at h, fun _ _ _ _ _ _ _ _ _ _ r h => by simp [maquettelaw13_LowerClasses.l5] at h, fun _ _ _ _ _ _ _ _ _ _ _ _ _ _ _ _ r h => by simp [maquettelaw13_LowerClasses.l6] at h⟩
 | k + 1 => by
  obtain ⟨ih0, ih1, ih2, ih3, ih4, ih5, ih6, ih7⟩ := maquettelaw13_LowerClasses.mono_l k
  refine ⟨?_, ?_, ?_, ?_, ?_, ?_, ?_, ?_⟩<;> intros <;> (first | unfold maquettelaw13_LowerClasses.l0 | unfold maquettelaw13_LowerClasses.l1 | unfold maquettelaw13_LowerClasses.j2 | unfold maquettelaw13_LowerClasses.l2 | unfold maquettelaw13_LowerClasses.l3 | unfold maquettelaw13_LowerClasses.l4 | unfold maquettelaw13_LowerClasses.l5 | unfold maquettelaw13_LowerClasses.l6) <;> repeat' first
   | (with_reducible exact ih0 _ _ _)
   | (with_reducible exact ih1 _ _ _ _ _ _ _ _ _)
   | (with_reducible exact ih2 _ _ _ _ _ _ _ _ _ _ _ _)
   | (with_reducible exact ih3 _ _ _ _ _ _ _ _ _ _ _ _ _ _ _)
   | (with_reducible exact ih4 _ _ _ _ _ _ _ _ _ _ _ _ _ _ _ _ _ _)
   | (with_reducible exact ih5 _ _ _ _ _ _ _)
   | (with_reducible exact ih6 _ _ _ _ _ _ _ _ _ _)
   | (with_reducible exact ih7 _ _ _ _ _ _ _ _ _ _ _ _ _ _ _ _)
   | (with_reducible exact maquettelaw07_Shape_Config.mono _ _ _ _ _ _ _)
   | (with_reducible exact LeO.refl _)
   | (with_reducible exact LeO.none _)
   | (with_reducible refine LeO.ite ?_ ?_)
   | (with_reducible refine LeO.bind ?_ (fun _ => ?_))
   | exact ih0 _ _ _
   | exact ih1 _ _ _ _ _ _ _ _ _
   | exact ih2 _ _ _ _ _ _ _ _ _ _ _ _
   | exact ih3 _ _ _ _ _ _ _ _ _ _ _ _ _ _ _
   | exact ih4 _ _ _ _ _ _ _ _ _ _ _ _ _ _ _ _ _ _
   | exact ih5 _ _ _ _ _ _ _
   | exact ih6 _ _ _ _ _ _ _ _ _ _
   | exact ih7 _ _ _ _ _ _ _ _ _ _ _ _ _ _ _ _
   | exact maquettelaw07_Shape_Config.mono _ _ _ _ _ _ _
   | exact LeO.none _
   | refine LeO.ite ?_ ?_
   | refine LeO.bind ?_ (fun _ => ?_)
theorem maquettelaw13_LowerClasses.mono : ∀ a0 a1 a2 a3 a4 a5 a6 a7 k, LeO (maquettelaw13_LowerClasses.f k a0 a1 a2 a3 a4 a5 a6 a7) (maquettelaw13_LowerClasses.f (k + 1) a0 a1 a2 a3 a4 a5 a6 a7) := by
 intro a0 a1 a2 a3 a4 a5 a6 a7 k
 obtain ⟨ih0, ih1, ih2, ih3, ih4, ih5, ih6, ih7⟩ := maquettelaw13_LowerClasses.mono_l k
 unfold maquettelaw13_LowerClasses.f
 repeat' first
   | (with_reducible exact ih0 _ _ _)
   | (with_reducible exact ih1 _ _ _ _ _ _ _ _ _)
   | (with_reducible exact ih2 _ _ _ _ _ _ _ _ _ _ _ _)
   | (with_reducible exact ih3 _ _ _ _ _ _ _ _ _ _ _ _ _ _ _)
   | (with_reducible exact ih4 _ _ _ _ _ _ _ _ _ _ _ _ _ _ _ _ _ _)
   | (with_reducible exact ih5 _ _ _ _ _ _ _)
   | (with_reducible exact ih6 _ _ _ _ _ _ _ _ _ _)
   | (with_reducible exact ih7 _ _ _ _ _ _ _ _ _ _ _ _ _ _ _ _)
   | (with_reducible exact maquettelaw07_Shape_Config.mono _ _ _ _ _ _ _)
   | (with_reducible exact LeO.refl _)
   | (with_reducible exact LeO.none _)
   | (with_reducible refine LeO.ite ?_ ?_)
   | (with_reducible refine LeO.bind ?_ (fun _ => ?_))
   | exact ih0 _ _ _
   | exact ih1 _ _ _ _ _ _ _ _ _
   | exact ih2 _ _ _ _ _ _ _ _ _ _ _ _
   | exact ih3 _ _ _ _ _ _ _ _ _ _ _ _ _ _ _
   | exact ih4 _ _ _ _ _ _ _ _ _ _ _ _ _ _ _ _ _ _
   | exact ih5 _ _ _ _ _ _ _
   | exact ih6 _ _ _ _ _ _ _ _ _ _
   | exact ih7 _ _ _ _ _ _ _ _ _ _ _ _ _ _ _ _
   | exact maquettelaw07_Shape_Config.mono _ _ _ _ _ _ _
   | exact LeO.none _
   | refine LeO.ite ?_ ?_
   | refine LeO.bind ?_ (fun _ => ?_)
def maquettelaw13_LowerClasses.T10 : Bool × List (List Nat × List Nat) := (true, [([], []), ([0], [0]), ([1], [1]), ([2], [2]), ([2], [2]), ([4, 2], [2, 4]), ([3, 5, 2], [2, 3, 5]), ([6, 2], [2, 6]), ([2], [2]), ([7, 8, 2, 2], [2, 7, 8]), ([9, 2], [2, 9]), ([2, 10], [2, 10])])
def maquettelaw13_LowerClasses.B10 : List Nat := [0, 1, 3, 7, 7, 23, 63, 127, 7, 511, 1023, 2047]
theorem maquettelaw13_LowerClasses.tab10 : rtab .any (opsOf Try.f5 10) = maquettelaw13_LowerClasses.T10 := by kernel_rfl
theorem maquettelaw13_LowerClasses.bits10 : waitsOk maquettelaw13_LowerClasses.T10.2 maquettelaw13_LowerClasses.B10 = true := by kernel_rfl
theorem b2t {a b c : World} (h : Below a.heap.size a b) (k : Below b.heap.size b c) : Below a.heap.size a c := ⟨k.os.trans h.os, k.tape.trans h.tape, k.output.trans h.output, Nat.le_trans h.size k.size, fun i hi => (k.block i (Nat.lt_of_lt_of_le hi h.size)).trans (h.block i hi)⟩
set_option maxHeartbeats 8000000 in
set_option maxRecDepth 100000 in
theorem maquettelaw13_LowerClasses.calls (k : Nat) (a0_0 : Int) (A0_1 : Option Addr) (c0_1 : Nat) (l0_1 : List Int) (A0_2 : Option Addr) (c0_2 : Nat) (l0_2 : List (List (S81))) (A0_3 : Option Addr) (c0_3 : Nat) (l0_3 : List Int) (A0_4 : Option Addr) (c0_4 : Nat) (l0_4 : List Int) (A0_5 : Option Addr) (c0_5 : Nat) (l0_5 : List Int) (P1_0_ : Nat → Prop) (A1_0 : Option Addr) (c1_0 : Nat) (l1_0 : List (S63)) (P1_1_ : Nat → Prop) (A1_1 : Option Addr) (c1_1 : Nat) (l1_1 : List (S36)) (r : Bool) (w : World) (hr0_1 : Kd.C (Kd.int .u8) w A0_1 l0_1.length l0_1) (hc0_1 : l0_1.length ≤ c0_1) (hr0_2 : Kd.C (Kd.slice 81 k81) w A0_2 l0_2.length l0_2) (hc0_2 : l0_2.length ≤ c0_2) (hr0_3 : Kd.C (Kd.int .u8) w A0_3 l0_3.length l0_3) (hc0_3 : l0_3.length ≤ c0_3) (hr0_4 : Kd.C (Kd.int .u8) w A0_4 l0_4.length l0_4) (hc0_4 : l0_4.length ≤ c0_4) (hr0_5 : Kd.C (Kd.int .u8) w A0_5 l0_5.length l0_5) (hc0_5 : l0_5.length ≤ c0_5) (hs1_0 : Kd.V k63 63 w w.heap.size (fun k_ => P1_0_ k_) (.slice A1_0 l1_0.length c1_0) l1_0) (hs1_1 : Kd.V k36 36 w w.heap.size (fun k_ => P1_1_ k_) (.slice A1_1 l1_1.length c1_1) l1_1) (h : maquettelaw13_LowerClasses.f k a0_0 l0_1 l0_2 l0_3 l0_4 l0_5 l1_0 l1_1 = some r) :
  Calls Try.prog 5 #[.agg #[.int .u8 a0_0, .slice A0_1 l0_1.length c0_1, .slice A0_2 l0_2.length c0_2, .slice A0_3 l0_3.length c0_3, .slice A0_4 l0_4.length c0_4, .slice A0_5 l0_5.length c0_5], .agg #[.slice A1_0 l1_0.length c1_0, .slice A1_1 l1_1.length c1_1]] w fun e w' => e = .returned (.bool r) ∧ Below w.heap.size w w' := by
 have hu25 := Try.underlying25
 have hu30 := Try.underlying30
 have hu42 := Try.underlying42
 have hu36 := Try.underlying36
 have HR0_1 := Aside0.mk hr0_1
 have HC0_1 := Aside0.mk hc0_1
 clear hr0_1 hc0_1
 have HR0_2 := Aside0.mk hr0_2
 have HC0_2 := Aside0.mk hc0_2
 clear hr0_2 hc0_2
 have HR0_3 := Aside0.mk hr0_3
 have HC0_3 := Aside0.mk hc0_3
 clear hr0_3 hc0_3
 have HR0_4 := Aside0.mk hr0_4
 have HC0_4 := Aside0.mk hc0_4
 clear hr0_4 hc0_4
 have HR0_5 := Aside0.mk hr0_5
 have HC0_5 := Aside0.mk hc0_5
 clear hr0_5 hc0_5
 have HO1_0 := Aside0.mk (show Kd.V k63 63 w w.heap.size (fun k_ => ((P1_0_ k_ ∨ P1_1_ k_) ∨ w.heap.size ≤ k_)) (.slice A1_0 l1_0.length c1_0) l1_0 from Kd.V_mono hs1_0 (fun k_ hk => .inl (.inl hk)))
 have HO1_1 := Aside0.mk (show Kd.V k36 36 w w.heap.size (fun k_ => ((P1_0_ k_ ∨ P1_1_ k_) ∨ w.heap.size ≤ k_)) (.slice A1_1 l1_1.length c1_1) l1_1 from Kd.V_mono hs1_1 (fun k_ hk => .inl (.inr hk)))
 have HB := Aside0.mk (Below.refl w.heap.size w)
 have H : ((maquettelaw13_awake.f).bind fun t208 => (if t208 = true then ((maquettelaw07_Shape_Config.f k a0_0 l0_1 l0_2 l0_3 l0_4 l0_5).bind fun bt209 => ((some (([(⟨bt209.1, bt209.2⟩ : S30), (⟨l1_0, l1_1⟩ : S30)] : List (S30)) : List (S30))).bind fun y215 => (maquettelaw13_LowerClasses.l0 k y215 (y215.length : Int) 0))) else (some false))) = some r := h
 clear h
 replace H := Option.bind_eq_some_iff.mp H
 obtain ⟨t208, A30, H⟩ := H
 replace H : (if t208 = true then ((maquettelaw07_Shape_Config.f k a0_0 l0_1 l0_2 l0_3 l0_4 l0_5).bind fun bt209 => ((some (([(⟨bt209.1, bt209.2⟩ : S30), (⟨l1_0, l1_1⟩ : S30)] : List (S30)) : List (S30))).bind fun y215 => (maquettelaw13_LowerClasses.l0 k y215 (y215.length : Int) 0))) else (some false)) = some r := H
 have A3 := Aside0.mk A30
 clear A30
 by_cases c4 : t208 = true
 ·subst c4
  have H1 : ((maquettelaw07_Shape_Config.f k a0_0 l0_1 l0_2 l0_3 l0_4 l0_5).bind fun bt209 => ((some (([(⟨bt209.1, bt209.2⟩ : S30), (⟨l1_0, l1_1⟩ : S30)] : List (S30)) : List (S30))).bind fun y215 => (maquettelaw13_LowerClasses.l0 k y215 (y215.length : Int) 0))) = some r := by rw [if_pos rfl] at H; exact H
  clear H
  have H := H1
  clear H1
  replace H := Option.bind_eq_some_iff.mp H
  obtain ⟨⟨t209, t212⟩, A50, H⟩ := H
  replace H : ((some (([(⟨t209, t212⟩ : S30), (⟨l1_0, l1_1⟩ : S30)] : List (S30)) : List (S30))).bind fun y215 => (maquettelaw13_LowerClasses.l0 k y215 (y215.length : Int) 0)) = some r := H
  have A5 := Aside0.mk A50
  clear A50
  obtain ⟨y215, hy215⟩ : ∃ y_ : List (S30), y_ = (([(⟨t209, t212⟩ : S30), (⟨l1_0, l1_1⟩ : S30)] : List (S30))) := ⟨_, rfl⟩
  replace H : (maquettelaw13_LowerClasses.l0 k y215 (y215.length : Int) 0) = some r := by first | (rw [hy215]; with_reducible exact H) | (have H2_ := (Option.bind_some _ _).symm.trans H; rw [hy215]; with_reducible exact H2_) | (have H2_ := (Option.bind_some _ _).symm.trans H; with_reducible exact H2_) | with_reducible exact H | (rw [hy215]; exact H) | exact H
  have Ny215 := Aside0.mk hy215
  clear hy215
  have H' := Aside0.mk H
  clear H
  go_enter Try.func5, Try.ntmps5
  try go_wp2_with (first | ((with_reducible refine gate_dst (N := 2) rfl ?_); refine bx 2 (cs := #[.int .u8 a0_0, .slice A0_1 l0_1.length c0_1, .slice A0_2 l0_2.length c0_2, .slice A0_3 l0_3.length c0_3, .slice A0_4 l0_4.length c0_4, .slice A0_5 l0_5.length c0_5]) (t := 25) (h := ?_); intro gb206 hg w6 hbox hb; have BK206 := Aside0.mk hbox; have GW206 : Aside0 (w.heap.size ≤ gb206) := bge hg; have GE206 : Aside0 (w.heap.size ≤ gb206) := bge hg; replace HO1_0 := Aside0.mk (Kd.V_below (Kd.V_elderB (kV HO1_0) gb206 (Nat.le_of_eq hg.symm)) hb); replace HO1_1 := Aside0.mk (Kd.V_below (Kd.V_elderB (kV HO1_1) gb206 (Nat.le_of_eq hg.symm)) hb); replace HB := bst hb; clear hb hbox hg) | ((with_reducible refine gate_dst (N := 3) rfl ?_); refine bx 3 (cs := #[.slice A1_0 l1_0.length c1_0, .slice A1_1 l1_1.length c1_1]) (t := 30) (h := ?_); intro gb207 hg w7 hbox hb; have BK207 := Aside0.mk hbox; have GW207 : Aside0 (w.heap.size ≤ gb207) := bge hg; have GE207 : Aside0 (w.heap.size ≤ gb207) := bge hg; have NB206_207 := bne BK206 hg; have NB207_206 := bnf BK206 hg; replace HO1_0 := Aside0.mk (Kd.V_below (Kd.V_elderB (kV HO1_0) gb207 (Nat.le_of_eq hg.symm)) hb); replace HO1_1 := Aside0.mk (Kd.V_below (Kd.V_elderB (kV HO1_1) gb207 (Nat.le_of_eq hg.symm)) hb); replace BK206 := bkb BK206 hb; replace HB := bst hb; clear hb hbox hg) | ((with_reducible refine gate_dst (N := 22) rfl ?_); refine gl (some 22) Try.func7 #[] ?_; (with_reducible refine (maquettelaw13_awake.calls  true _ A3.out).mono ?_); rintro e w8 ⟨rfl, hb⟩; refine ⟨_, rfl, ?_⟩; replace HO1_0 := Aside0.mk (Kd.V_below (kV HO1_0) hb); replace HO1_1 := Aside0.mk (Kd.V_below (kV HO1_1) hb); replace BK206 := bkb BK206 hb; replace BK207 := bkb BK207 hb; replace HB := bst hb; (try clear hb); (try clear hb2); (try clear hk); (try clear hi)))
  replace HO1_0 := Aside0.mk (Kd.V_drew HO1_0.out)
  replace HO1_1 := Aside0.mk (Kd.V_drew HO1_1.out)
  replace BK206 := Aside0.mk (blk_drew BK206.out)
  replace BK207 := Aside0.mk (blk_drew BK207.out)
  replace HB := Aside0.mk (below_drew1 HB.out)
  refine start_ (n := 6) (S := fun w' => CS6 w' gb206 (.int .u8 a0_0) (.slice A0_1 l0_1.length c0_1) (.slice A0_2 l0_2.length c0_2) (.slice A0_3 l0_3.length c0_3) (.slice A0_4 l0_4.length c0_4) (.slice A0_5 l0_5.length c0_5) (CE2 w' gb207 (.slice A1_0 l1_0.length c1_0) (.slice A1_1 l1_1.length c1_1))) (ds := []) #[false, false, false, false, false, false] (by kernel_rfl) rfl rfl (hs6 BK206 (he2 BK207)) (fun hHeld => ?_)
  generalize w8.drew = w9 at HO1_0 HO1_1 BK206 BK207 HB hHeld ⊢
  refine pure_ (i := 5) (N := some 29) (v := ?_) (a' := ?_) #[false, false, false, false, false, true] rfl rfl (by kernel_rfl) (fun _ _ _ h => h) (Or.inl ⟨by rfl, ?_⟩) ?_ ?_
  rotate_left
  ·intro w'
   go_simp
   with_reducible rfl
  rotate_left
  ·simp only [Act.put, List.setIfInBounds_toArray, List.set_cons_zero, List.set_cons_succ, i64_w, i32_w]
   rfl
  refine take_ (i := 0) (N := some 24) (v := ?_) (a' := ?_) #[true, false, false, false, false, true] rfl rfl (by kernel_rfl) (fun _ _ _ h => h) (Or.inl ⟨by rfl, ?_⟩) hHeld ?_ ?_
  rotate_left
  ·rintro w' ⟨s0, s1, s2, s3, s4, s5, s6, s7⟩
   go_simp
   with_reducible rfl
  rotate_left
  ·simp only [Act.put, List.setIfInBounds_toArray, List.set_cons_zero, List.set_cons_succ, i64_w, i32_w]
   rfl
  refine take_ (i := 2) (N := some 26) (v := ?_) (a' := ?_) #[true, false, true, false, false, true] rfl rfl (by kernel_rfl) (fun _ _ _ h => h) (Or.inl ⟨by rfl, ?_⟩) hHeld ?_ ?_
  rotate_left
  ·rintro w' ⟨s0, s1, s2, s3, s4, s5, s6, s7⟩
   go_simp
   with_reducible rfl
  rotate_left
  ·simp only [Act.put, List.setIfInBounds_toArray, List.set_cons_zero, List.set_cons_succ, i64_w, i32_w]
   rfl
  refine one_ (i := 1) (N := some 25) #[true, true, true, false, false, true] rfl rfl (by kernel_rfl) (by decide) (fun K hK => ?_)
  refine go1 Try.func8 #[.agg #[.int .u8 a0_0, .slice A0_1 l0_1.length c0_1, .slice A0_2 l0_2.length c0_2, .slice A0_3 l0_3.length c0_3, .slice A0_4 l0_4.length c0_4, .slice A0_5 l0_5.length c0_5]] ?_
  with_reducible refine (maquettelaw07_Shape_Config.calls k a0_0 _ _ l0_1 _ _ l0_2 _ _ l0_3 _ _ l0_4 _ _ l0_5 t209 t212 _ ?side1 ?side2 ?side3 ?side4 ?side5 ?side6 ?side7 ?side8 ?side9 ?side10 A5.out).mono ?_
  (case side1 => exact kcb HR0_1)
  (case side2 => exact HC0_1.out)
  (case side3 => exact kcb HR0_2)
  (case side4 => exact HC0_2.out)
  (case side5 => exact kcb HR0_3)
  (case side6 => exact HC0_3.out)
  (case side7 => exact kcb HR0_4)
  (case side8 => exact HC0_4.out)
  (case side9 => exact kcb HR0_5)
  (case side10 => exact HC0_5.out)
  rintro e w10 ⟨v210, v213, rfl, ho0, ho1, hb⟩
  refine ⟨_, rfl, ?_⟩
  have HO211 := Aside0.mk (Kd.N_lower (Kd.N_mono (ok' := fun k_ => ((P1_0_ k_ ∨ P1_1_ k_) ∨ w.heap.size ≤ k_) ∧ some k_ ≠ (v213 : Value).ownBlock ∧ k_ ≠ gb206 ∧ k_ ≠ gb207) (Kd.S_N (Kd.S_bound (Kd.S_apart' ho0 (Kd.S_typed ho1) (by decide)))) (fun k_ hk_ => ⟨(.inr (Nat.le_trans (below_size bel) hk_.2.1)), hk_.1.2, (Kd.freshB (bkq BK206) k_ hk_.2.1), (Kd.freshB (bkq BK207) k_ hk_.2.1)⟩)) (below_size bel))
  have HO214 := Aside0.mk (Kd.N_lower (Kd.N_mono (ok' := fun k_ => ((P1_0_ k_ ∨ P1_1_ k_) ∨ w.heap.size ≤ k_) ∧ some k_ ≠ (v210 : Value).ownBlock ∧ k_ ≠ gb206 ∧ k_ ≠ gb207) (Kd.S_N (Kd.S_bound (Kd.S_apart' ho1 (Kd.S_typed ho0) (by decide)))) (fun k_ hk_ => ⟨(.inr (Nat.le_trans (below_size bel) hk_.2.1)), hk_.1.2, (Kd.freshB (bkq BK206) k_ hk_.2.1), (Kd.freshB (bkq BK207) k_ hk_.2.1)⟩)) (below_size bel))
  replace HO1_0 := Aside0.mk (Kd.V_mono (Kd.V_told (Kd.V_told (Kd.V_old (kV HO1_0) hb) (Kd.S_base ho0)) (Kd.S_base ho1)) (fun _ h_ => h_.1))
  replace HO1_1 := Aside0.mk (Kd.V_mono (Kd.V_told (Kd.V_told (Kd.V_old (kV HO1_1) hb) (Kd.S_base ho0)) (Kd.S_base ho1)) (fun _ h_ => h_.1))
  replace BK206 := bkb BK206 hb
  replace BK207 := bkb BK207 hb
  replace HB := bst hb
  (try clear hb)
  (try clear hb2)
  (try clear hk)
  (try clear hi)
  (try clear ho0)
  (try clear ho1)
  obtain ⟨Ao11, co11, eo11⟩ := Kd.N_slice HO211.out
  (first | subst eo11 | (injection eo11 with f1_ f2_ f3_; have f4_ := f1_.symm; have f5_ := f3_.symm; clear f1_ f2_ f3_; subst f4_; subst f5_))
  obtain ⟨Ao12, co12, eo12⟩ := Kd.N_slice HO214.out
  (first | subst eo12 | (injection eo12 with f1_ f2_ f3_; have f4_ := f1_.symm; have f5_ := f3_.symm; clear f1_ f2_ f3_; subst f4_; subst f5_))
  refine hK.out _ _ (hs6 BK206 (he2 BK207)) (fun hHeld => ?_)
  clear hK K
  refine nm (some 25) ?_
  refine one_ (i := 3) (N := some 27) #[true, true, true, true, false, true] rfl rfl (by kernel_rfl) (by decide) (fun K hK => ?_)
  refine Kd.N_lit_step k30 _ 30 ?hg (N' := 27) ?hd (xs := ([(⟨t209, t212⟩ : S30), (⟨l1_0, l1_1⟩ : S30)] : List (S30))) (inner := [.slice Ao11 t209.length co11, .slice Ao12 t212.length co12, .slice A1_0 l1_0.length c1_0, .slice A1_1 l1_1.length c1_1]) (ok := (fun k_ => ((P1_0_ k_ ∨ P1_1_ k_) ∨ w.heap.size ≤ k_) ∧ k_ ≠ gb206 ∧ k_ ≠ gb207)) (okp := (fun k_ => ((P1_0_ k_ ∨ P1_1_ k_) ∨ w.heap.size ≤ k_) ∧ k_ ≠ gb206 ∧ k_ ≠ gb207)) ?hr ?hp (fun _ hk => hk) ((show ∀ k_, w10.heap.size ≤ k_ → (fun k_ => ((P1_0_ k_ ∨ P1_1_ k_) ∨ w.heap.size ≤ k_) ∧ k_ ≠ gb206 ∧ k_ ≠ gb207) k_ from fun k_ hk => ⟨(.inr (Nat.le_trans (below_size bel) hk)), Kd.freshB (bkq BK206) k_ hk, Kd.freshB (bkq BK207) k_ hk⟩) _ (Nat.le_refl _)) (Below.refl _ _) (Nat.le_refl _) (by simp) ?_; (case hd => rfl); (case hg => rfl); (case hr => first | (go_simp; done) | (go_simp; rfl)); (case hp => exact (Reps.c2 (show Kd.FK k30 _ _ (⟨t209, t212⟩ : S30) [.slice Ao11 t209.length co11, .slice Ao12 t212.length co12] from (k30_mkF _ _ (⟨t209, t212⟩ : S30) (Kd.N_reads' (Kd.N_mono (ok' := (fun k_ => ((P1_0_ k_ ∨ P1_1_ k_) ∨ w.heap.size ≤ k_) ∧ k_ ≠ gb206 ∧ k_ ≠ gb207)) (HO211.out) (fun k_ hk => ⟨hk.1, ⟨hk.2.2.1, hk.2.2.2⟩⟩))).2.1 (Kd.N_F (Kd.N_mono (ok' := (fun k_ => ((P1_0_ k_ ∨ P1_1_ k_) ∨ w.heap.size ≤ k_) ∧ k_ ≠ gb206 ∧ k_ ≠ gb207)) (HO211.out) (fun k_ hk => ⟨hk.1, ⟨hk.2.2.1, hk.2.2.2⟩⟩))) (Kd.N_reads' (Kd.N_mono (ok' := (fun k_ => ((P1_0_ k_ ∨ P1_1_ k_) ∨ w.heap.size ≤ k_) ∧ k_ ≠ gb206 ∧ k_ ≠ gb207)) (HO214.out) (fun k_ hk => ⟨hk.1, ⟨hk.2.2.1, hk.2.2.2⟩⟩))).2.1 (Kd.N_F (Kd.N_mono (ok' := (fun k_ => ((P1_0_ k_ ∨ P1_1_ k_) ∨ w.heap.size ≤ k_) ∧ k_ ≠ gb206 ∧ k_ ≠ gb207)) (HO214.out) (fun k_ hk => ⟨hk.1, ⟨hk.2.2.1, hk.2.2.2⟩⟩))))) (Reps.c2 (show Kd.FK k30 _ _ (⟨l1_0, l1_1⟩ : S30) [.slice A1_0 l1_0.length c1_0, .slice A1_1 l1_1.length c1_1] from (k30_mkF _ _ (⟨l1_0, l1_1⟩ : S30) (Kd.V_reads' (Kd.V_mono (ok' := (fun k_ => ((P1_0_ k_ ∨ P1_1_ k_) ∨ w.heap.size ≤ k_) ∧ k_ ≠ gb206 ∧ k_ ≠ gb207)) (HO1_0.out) (fun k_ hk => ⟨hk.1.1.1.1, ⟨hk.1.1.1.2, hk.1.1.2⟩⟩))).2.1 (Kd.V_F (Kd.V_mono (ok' := (fun k_ => ((P1_0_ k_ ∨ P1_1_ k_) ∨ w.heap.size ≤ k_) ∧ k_ ≠ gb206 ∧ k_ ≠ gb207)) (HO1_0.out) (fun k_ hk => ⟨hk.1.1.1.1, ⟨hk.1.1.1.2, hk.1.1.2⟩⟩))) (Kd.V_reads' (Kd.V_mono (ok' := (fun k_ => ((P1_0_ k_ ∨ P1_1_ k_) ∨ w.heap.size ≤ k_) ∧ k_ ≠ gb206 ∧ k_ ≠ gb207)) (HO1_1.out) (fun k_ hk => ⟨hk.1.1.1.1, ⟨hk.1.1.1.2, hk.1.1.2⟩⟩))).2.1 (Kd.V_F (Kd.V_mono (ok' := (fun k_ => ((P1_0_ k_ ∨ P1_1_ k_) ∨ w.heap.size ≤ k_) ∧ k_ ≠ gb206 ∧ k_ ≠ gb207)) (HO1_1.out) (fun k_ hk => ⟨hk.1.1.1.1, ⟨hk.1.1.1.2, hk.1.1.2⟩⟩))))) (Reps.none _ _))))
  intro v216 w13 ho14 hb hg_ hnew_
  clear hg_ hnew_
  (first | rw [← Ny215.out] at ho14 | (simp only [Int.reduceToNat] at ho14; rw [← Ny215.out] at ho14))
  have HO217 := Aside0.mk (Kd.N_lower ho14 (below_size bel))
  replace HO1_0 := Aside0.mk (Kd.V_elder' (kV HO1_0) (Kd.N_base ho14) hb)
  replace HO1_1 := Aside0.mk (Kd.V_elder' (kV HO1_1) (Kd.N_base ho14) hb)
  replace BK206 := bkb BK206 hb
  replace BK207 := bkb BK207 hb
  replace HB := bst hb
  clear HO211 HO214
  clear hb ho14
  obtain ⟨Ao15, co15, eo15⟩ := Kd.N_slice HO217.out
  (first | subst eo15 | (injection eo15 with f1_ f2_ f3_; have f4_ := f1_.symm; have f5_ := f3_.symm; clear f1_ f2_ f3_; subst f4_; subst f5_))
  refine hK.out _ _ (hs6 BK206 (he2 BK207)) (fun hHeld => ?_)
  clear hK K
  refine nm (some 27) ?_
  refine pure_ (i := 4) (N := some 28) (v := ?_) (a' := ?_) #[true, true, true, true, true, true] rfl rfl (by kernel_rfl) (fun _ _ _ h => h) (Or.inl ⟨by rfl, ?_⟩) ?_ ?_
  rotate_left
  ·intro w'
   go_simp
   with_reducible rfl
  rotate_left
  ·simp only [Act.put, List.setIfInBounds_toArray, List.set_cons_zero, List.set_cons_succ, i64_w, i32_w]
   rfl
  refine done_ (by kernel_rfl) ?_
  try go_wp2
  go_loopg [29] k (fun kq v29 w' => ∃ (x29_1 : Int), v29 = .int .i64 x29_1 ∧ Aside0 (maquettelaw13_LowerClasses.l0 kq y215 (y215.length : Int) x29_1 = some r) ∧ Aside0 (kq ≤ k) ∧ Aside0 (Kd.N k30 30 w' w.heap.size (fun k_ => ((P1_0_ k_ ∨ P1_1_ k_) ∨ w.heap.size ≤ k_) ∧ k_ ≠ gb206 ∧ k_ ≠ gb207) (.slice Ao15 y215.length co15) y215) ∧ Aside0 (Kd.V k63 63 w' w.heap.size (fun k_ => ((P1_0_ k_ ∨ P1_1_ k_) ∨ w.heap.size ≤ k_) ∧ some k_ ≠ ((.slice Ao15 y215.length co15) : Value).ownBlock ∧ k_ ≠ gb206 ∧ k_ ≠ gb207) (.slice A1_0 l1_0.length c1_0) l1_0) ∧ Aside0 (Kd.V k36 36 w' w.heap.size (fun k_ => ((P1_0_ k_ ∨ P1_1_ k_) ∨ w.heap.size ≤ k_) ∧ some k_ ≠ ((.slice Ao15 y215.length co15) : Value).ownBlock ∧ k_ ≠ gb206 ∧ k_ ≠ gb207) (.slice A1_1 l1_1.length c1_1) l1_1) ∧ Aside0 (w'.heap[gb206]? = some (.cells #[.int .u8 a0_0, (.slice A0_1 l0_1.length c0_1), (.slice A0_2 l0_2.length c0_2), (.slice A0_3 l0_3.length c0_3), (.slice A0_4 l0_4.length c0_4), (.slice A0_5 l0_5.length c0_5)] 25 (0, 0))) ∧ Aside0 (w'.heap[gb207]? = some (.cells #[(.slice A1_0 l1_0.length c1_0), (.slice A1_1 l1_1.length c1_1)] 30 (0, 0))) ∧ Aside0 (Below w.heap.size w w'))
  case atStart => exact ⟨(0), (by first | rfl | (simp; done) | (simp [*]; done)), H', ⟨Nat.le_refl _⟩, ⟨by (with_reducible repeat (first | apply Kd.N_alloc | apply Kd.N_drewN | apply Kd.N_drew)); exact HO217.out⟩, ⟨by (with_reducible repeat (first | apply Kd.V_alloc | apply Kd.V_drewN | apply Kd.V_drew)); exact Kd.V_mono HO1_0.out (fun _ hk => ⟨hk.1.1.1.1.1, ⟨hk.2, ⟨hk.1.1.1.1.2, hk.1.1.1.2⟩⟩⟩)⟩, ⟨by (with_reducible repeat (first | apply Kd.V_alloc | apply Kd.V_drewN | apply Kd.V_drew)); exact Kd.V_mono HO1_1.out (fun _ hk => ⟨hk.1.1.1.1.1, ⟨hk.2, ⟨hk.1.1.1.1.2, hk.1.1.1.2⟩⟩⟩)⟩, ⟨bkq BK206⟩, ⟨bkq BK207⟩, ⟨by repeat (first | (with_reducible first | exact HB.out | apply below_alloc | apply pw_below_drewN | apply below_drew1 | refine below_set ?_ GE206.out | refine below_set ?_ GE207.out) | exact HB.out)⟩⟩
  case round =>
   clear H'
   try clear c1
   try clear c2
   try clear p2
   try clear c4
   try clear c5
   try clear c7
   try clear c8
   obtain ⟨x29_1, rfl, HA, HK1, HO_27, HO_208000, HO_208001, BK206, BK207, HB⟩ := hrel
   cases gk with
   | zero => exact absurd HA.out (by simp [maquettelaw13_LowerClasses.l0])
   | succ k1 =>
    have H := HA.out
    clear HA
    simp only [maquettelaw13_LowerClasses.l0] at H
    by_cases c16 : x29_1 < (y215.length : Int)
    ·rw [if_pos c16] at H
     have c16b0 := decide_eq_true c16
     clear c16
     by_cases c17 : 0 ≤ x29_1
     ·rw [if_pos c17] at H
      have c17b0 := decide_eq_true c17
      clear c17
      by_cases c18 : x29_1 < (y215.length : Int)
      ·rw [if_pos c18] at H
       have c18b0 := decide_eq_true c18
       clear c18
       replace H := Option.bind_eq_some_iff.mp H
       obtain ⟨t220, A190, H⟩ := H
       replace H : (maquettelaw13_LowerClasses.l1 k1 t220 y215 (y215.length : Int) x29_1 t220 (t220.length : Int) 0 ((rd_T30 y215 x29_1).f0) ((rd_T30 y215 x29_1).f1)) = some r := H
       have A19 := Aside0.mk A190
       clear A190
       have H' := Aside0.mk H
       clear H
       have p218 : 0 ≤ (x29_1 : Int) := of_decide_eq_true (by first | (with_reducible assumption) | assumption)
       have q218 : x29_1 < (y215.length : Int) := of_decide_eq_true (by first | (with_reducible assumption) | assumption)
       obtain ⟨ad218, A218_0, c218_0, A218_1, c218_1, e218, hx218_0, hx218_1, hl218_0, hi218_0, hl218_1, hi218_1⟩ := at_T30 (Kd.N_reads' HO_27.out).2.2 x29_1 p218 q218
       cases e218
       obtain ⟨ce218, hce218, hMe218, hcc218⟩ := Kd.N_get HO_27.out z30 x29_1 p218 (by first | exact q218 | exact of_decide_eq_true (by first | (with_reducible assumption) | assumption) | (have e_ := (Kd.N_reads' HO_27.out).1; omega))
       obtain ⟨ua218_0, uc218_0, ua218_1, uc218_1, rfl, ul218_0, ge218_0, ul218_1, ge218_1⟩ := k30_openF hMe218
       have hv218_0 := hcc218 0 _ rfl
       rw [Nat.add_zero] at hv218_0
       replace hv218_0 := Option.some.inj (hv218_0.symm.trans hx218_0)
       injection hv218_0 with hva_ hvn_ hvc_
       rw [hva_] at ge218_0
       rw [hvc_] at ul218_0
       have HL218_0 := Aside0.mk (show Kd.V k63 63 _ w.heap.size _ _ ((rd_T30 y215 x29_1).f0) from Kd.V_mk ul218_0 ge218_0)
       clear hva_ hvn_ hvc_ ge218_0 ul218_0
       have hv218_1 := hcc218 1 _ rfl
       rw [add_field _ _ 1 (by omega)] at hv218_1
       replace hv218_1 := Option.some.inj (hv218_1.symm.trans hx218_1)
       injection hv218_1 with hva_ hvn_ hvc_
       rw [hva_] at ge218_1
       rw [hvc_] at ul218_1
       have HL218_1 := Aside0.mk (show Kd.V k36 36 _ w.heap.size _ _ ((rd_T30 y215 x29_1).f1) from Kd.V_mk ul218_1 ge218_1)
       clear hva_ hvn_ hvc_ ge218_1 ul218_1
       clear hcc218 hce218
       have HR218_0 := Aside0.mk hi218_0
       have HC218_0 := Aside0.mk hl218_0
       clear hi218_0 hl218_0
       have HR218_1 := Aside0.mk hi218_1
       have HC218_1 := Aside0.mk hl218_1
       clear hi218_1 hl218_1
       replace p218 := eq_true p218
       replace q218 := eq_true q218
       go_wp2_with (first | ((with_reducible refine gate_dst (N := 6) rfl ?_); refine bx 6 (cs := #[.slice none 0 0, .slice none 0 0]) (t := 30) (h := ?_); intro gb219 hg w20 hbox hb; have BK219 := Aside0.mk hbox; have GW219 : Aside0 (w.heap.size ≤ gb219) := bge hg; have GE219 : Aside0 (w.heap.size ≤ gb219) := bge hg; have NB206_219 := bne BK206 hg; have NB219_206 := bnf BK206 hg; have NB207_219 := bne BK207 hg; have NB219_207 := bnf BK207 hg; replace HO_27 := Aside0.mk (Kd.N_below (Kd.N_elderB (kN HO_27) gb219 (Nat.le_of_eq hg.symm)) hb); replace HO_208000 := Aside0.mk (Kd.V_below (Kd.V_elderB (kV HO_208000) gb219 (Nat.le_of_eq hg.symm)) hb); replace HO_208001 := Aside0.mk (Kd.V_below (Kd.V_elderB (kV HO_208001) gb219 (Nat.le_of_eq hg.symm)) hb); replace HL218_0 := Aside0.mk (Kd.V_below (Kd.V_elderB (by (with_reducible repeat (first | apply Kd.V_alloc | apply Kd.V_drewN | apply Kd.V_drew)); exact HL218_0.out) gb219 (Nat.le_of_eq hg.symm)) hb); replace HL218_1 := Aside0.mk (Kd.V_below (Kd.V_elderB (by (with_reducible repeat (first | apply Kd.V_alloc | apply Kd.V_drewN | apply Kd.V_drew)); exact HL218_1.out) gb219 (Nat.le_of_eq hg.symm)) hb); replace BK206 := bkb BK206 hb; replace BK207 := bkb BK207 hb; replace HR218_0 := Aside0.mk (Kd.C_below (by repeat (first | (with_reducible exact HR218_0.out) | (with_reducible refine Kd.C_alloc ?_ _) | (with_reducible refine Kd.C_drewN ?_ _) | (with_reducible refine Kd.C_drew ?_) | exact HR218_0.out)) hb); replace HR218_1 := Aside0.mk (Kd.C_below (by repeat (first | (with_reducible exact HR218_1.out) | (with_reducible refine Kd.C_alloc ?_ _) | (with_reducible refine Kd.C_drewN ?_ _) | (with_reducible refine Kd.C_drew ?_) | exact HR218_1.out)) hb); replace HB := bst hb; clear hb hbox hg; have hnb21 := NB219_206.out; have hnc21 := NB206_219.out; have hnb22 := NB219_207.out; have hnc22 := NB207_219.out; obtain ⟨hcz23_0, hcz23_1, hfz23_0, hfz23_1⟩ := bc2 BK219) | ((with_reducible refine gate_dst (N := 34) rfl ?_); refine gl (some 34) Try.func10 #[.agg #[.slice A218_0 ((rd_T30 y215 x29_1).f0).length c218_0, .slice A218_1 ((rd_T30 y215 x29_1).f1).length c218_1]] ?_; (with_reducible refine (lower_Classes.calls _ _ ((rd_T30 y215 x29_1).f0) _ _ ((rd_T30 y215 x29_1).f1) t220 _ ?side1 ?side2 ?side3 ?side4 A19.out).mono ?_); (case side1 => repeat (first | exact ((Kd.V_reads' (by (with_reducible repeat (first | apply Kd.V_alloc | apply Kd.V_drewN | apply Kd.V_drew)); exact (Kd.V_mono (Kd.V_far (p := ⟨gb219, 1, none⟩) (Kd.V_far (p := ⟨gb219, 0, none⟩) (Kd.V_mono HL218_0.out (fun k_ hk => (⟨hk, hk.2⟩ : _ ∧ k_ ≠ gb219))) (fun _ hk => hk.2) (.slice A218_0 ((rd_T30 y215 x29_1).f0).length c218_0)) (fun _ hk => hk.2) (.slice A218_1 ((rd_T30 y215 x29_1).f1).length c218_1)) (fun _ h_ => h_.1)))).2.2) | (with_reducible refine Kd.C_alloc ?_ _) | (with_reducible refine Kd.C_drewN ?_ _) | (with_reducible refine Kd.C_drew ?_))); (case side2 => exact HC218_0.out); (case side3 => repeat (first | exact ((Kd.V_reads' (by (with_reducible repeat (first | apply Kd.V_alloc | apply Kd.V_drewN | apply Kd.V_drew)); exact (Kd.V_mono (Kd.V_far (p := ⟨gb219, 1, none⟩) (Kd.V_far (p := ⟨gb219, 0, none⟩) (Kd.V_mono HL218_1.out (fun k_ hk => (⟨hk, hk.2⟩ : _ ∧ k_ ≠ gb219))) (fun _ hk => hk.2) (.slice A218_0 ((rd_T30 y215 x29_1).f0).length c218_0)) (fun _ hk => hk.2) (.slice A218_1 ((rd_T30 y215 x29_1).f1).length c218_1)) (fun _ h_ => h_.1)))).2.2) | (with_reducible refine Kd.C_alloc ?_ _) | (with_reducible refine Kd.C_drewN ?_ _) | (with_reducible refine Kd.C_drew ?_))); (case side4 => exact HC218_1.out); rintro e w24 ⟨v221, rfl, ho0, hb⟩; refine ⟨_, rfl, ?_⟩; have HO222 := Aside0.mk (Kd.R_lower (Kd.R_newM (M := fun k_ => (w.heap.size ≤ k_)) ho0 (below_size bel) (fun k_ h_ => h_)) (below_size bel)); replace HO_27 := Aside0.mk (Kd.N_elder' (by (with_reducible repeat (first | apply Kd.N_alloc | apply Kd.N_drewN | apply Kd.N_drew)); exact (Kd.N_mono (Kd.N_far (p := ⟨gb219, 1, none⟩) (Kd.N_far (p := ⟨gb219, 0, none⟩) (Kd.N_mono HO_27.out (fun k_ hk => (⟨hk, hk.2⟩ : _ ∧ k_ ≠ gb219))) (fun _ hk => hk.2) (.slice A218_0 ((rd_T30 y215 x29_1).f0).length c218_0)) (fun _ hk => hk.2) (.slice A218_1 ((rd_T30 y215 x29_1).f1).length c218_1)) (fun _ h_ => h_.1))) (Kd.R_base ho0) hb); replace HO_208000 := Aside0.mk (Kd.V_elder' (by (with_reducible repeat (first | apply Kd.V_alloc | apply Kd.V_drewN | apply Kd.V_drew)); exact (Kd.V_mono (Kd.V_far (p := ⟨gb219, 1, none⟩) (Kd.V_far (p := ⟨gb219, 0, none⟩) (Kd.V_mono HO_208000.out (fun k_ hk => (⟨hk, hk.2⟩ : _ ∧ k_ ≠ gb219))) (fun _ hk => hk.2) (.slice A218_0 ((rd_T30 y215 x29_1).f0).length c218_0)) (fun _ hk => hk.2) (.slice A218_1 ((rd_T30 y215 x29_1).f1).length c218_1)) (fun _ h_ => h_.1))) (Kd.R_base ho0) hb); replace HO_208001 := Aside0.mk (Kd.V_elder' (by (with_reducible repeat (first | apply Kd.V_alloc | apply Kd.V_drewN | apply Kd.V_drew)); exact (Kd.V_mono (Kd.V_far (p := ⟨gb219, 1, none⟩) (Kd.V_far (p := ⟨gb219, 0, none⟩) (Kd.V_mono HO_208001.out (fun k_ hk => (⟨hk, hk.2⟩ : _ ∧ k_ ≠ gb219))) (fun _ hk => hk.2) (.slice A218_0 ((rd_T30 y215 x29_1).f0).length c218_0)) (fun _ hk => hk.2) (.slice A218_1 ((rd_T30 y215 x29_1).f1).length c218_1)) (fun _ h_ => h_.1))) (Kd.R_base ho0) hb); replace BK206 := bkb BK206 hb; replace BK207 := bkb BK207 hb; replace HR218_0 := Aside0.mk (Kd.C_below ((Kd.V_reads' (by (with_reducible repeat (first | apply Kd.V_alloc | apply Kd.V_drewN | apply Kd.V_drew)); exact (Kd.V_mono (Kd.V_far (p := ⟨gb219, 1, none⟩) (Kd.V_far (p := ⟨gb219, 0, none⟩) (Kd.V_mono HL218_0.out (fun k_ hk => (⟨hk, hk.2⟩ : _ ∧ k_ ≠ gb219))) (fun _ hk => hk.2) (.slice A218_0 ((rd_T30 y215 x29_1).f0).length c218_0)) (fun _ hk => hk.2) (.slice A218_1 ((rd_T30 y215 x29_1).f1).length c218_1)) (fun _ h_ => h_.1)))).2.2) hb); replace HL218_0 := Aside0.mk (Kd.V_elder' (by (with_reducible repeat (first | apply Kd.V_alloc | apply Kd.V_drewN | apply Kd.V_drew)); exact (Kd.V_mono (Kd.V_far (p := ⟨gb219, 1, none⟩) (Kd.V_far (p := ⟨gb219, 0, none⟩) (Kd.V_mono HL218_0.out (fun k_ hk => (⟨hk, hk.2⟩ : _ ∧ k_ ≠ gb219))) (fun _ hk => hk.2) (.slice A218_0 ((rd_T30 y215 x29_1).f0).length c218_0)) (fun _ hk => hk.2) (.slice A218_1 ((rd_T30 y215 x29_1).f1).length c218_1)) (fun _ h_ => h_.1))) (Kd.R_base ho0) hb); replace HR218_1 := Aside0.mk (Kd.C_below ((Kd.V_reads' (by (with_reducible repeat (first | apply Kd.V_alloc | apply Kd.V_drewN | apply Kd.V_drew)); exact (Kd.V_mono (Kd.V_far (p := ⟨gb219, 1, none⟩) (Kd.V_far (p := ⟨gb219, 0, none⟩) (Kd.V_mono HL218_1.out (fun k_ hk => (⟨hk, hk.2⟩ : _ ∧ k_ ≠ gb219))) (fun _ hk => hk.2) (.slice A218_0 ((rd_T30 y215 x29_1).f0).length c218_0)) (fun _ hk => hk.2) (.slice A218_1 ((rd_T30 y215 x29_1).f1).length c218_1)) (fun _ h_ => h_.1)))).2.2) hb); replace HL218_1 := Aside0.mk (Kd.V_elder' (by (with_reducible repeat (first | apply Kd.V_alloc | apply Kd.V_drewN | apply Kd.V_drew)); exact (Kd.V_mono (Kd.V_far (p := ⟨gb219, 1, none⟩) (Kd.V_far (p := ⟨gb219, 0, none⟩) (Kd.V_mono HL218_1.out (fun k_ hk => (⟨hk, hk.2⟩ : _ ∧ k_ ≠ gb219))) (fun _ hk => hk.2) (.slice A218_0 ((rd_T30 y215 x29_1).f0).length c218_0)) (fun _ hk => hk.2) (.slice A218_1 ((rd_T30 y215 x29_1).f1).length c218_1)) (fun _ h_ => h_.1))) (Kd.R_base ho0) hb); replace BK219 := Aside0.mk (blk_below (g := gb219) (o := .cells #[.slice A218_0 ((rd_T30 y215 x29_1).f0).length c218_0, .slice A218_1 ((rd_T30 y215 x29_1).f1).length c218_1] 30 (0, 0)) (bkp BK219) hb); replace HB := bst hb; (try clear hb); (try clear hb2); (try clear hk); (try clear hi); (try clear ho0); obtain ⟨Ao25, co25, eo25⟩ := Kd.R_slice HO222.out; subst eo25))
       have HB2 : Aside0 (Below w24.heap.size w24 w24) := ⟨Below.refl _ _⟩
       go_loopg [37] k1 (fun kq v37 w' => ∃ (x37_2 : Int), v37 = .int .i64 x37_2 ∧ Aside0 (maquettelaw13_LowerClasses.l1 kq t220 y215 (y215.length : Int) x29_1 t220 (t220.length : Int) x37_2 ((rd_T30 y215 x29_1).f0) ((rd_T30 y215 x29_1).f1) = some r) ∧ Aside0 (kq ≤ k1) ∧ Aside0 (Kd.R k42 42 w' w.heap.size (fun k_ => (w.heap.size ≤ k_)) (.slice Ao25 t220.length co25) t220) ∧ Aside0 (Kd.N k30 30 w' w.heap.size (fun k_ => ((P1_0_ k_ ∨ P1_1_ k_) ∨ w.heap.size ≤ k_) ∧ some k_ ≠ ((.slice Ao25 t220.length co25) : Value).ownBlock ∧ some k_ ≠ ((.slice Ao25 t220.length co25) : Value).ownBlock ∧ k_ ≠ gb206 ∧ k_ ≠ gb207 ∧ k_ ≠ gb219) (.slice (some ad218) y215.length co15) y215) ∧ Aside0 (Kd.R k42 42 w' w.heap.size (fun k_ => (w.heap.size ≤ k_)) (.slice Ao25 t220.length co25) t220) ∧ Aside0 (Kd.V k63 63 w' w.heap.size (fun k_ => ((P1_0_ k_ ∨ P1_1_ k_) ∨ w.heap.size ≤ k_) ∧ some k_ ≠ ((.slice Ao25 t220.length co25) : Value).ownBlock ∧ some k_ ≠ ((.slice (some ad218) y215.length co15) : Value).ownBlock ∧ some k_ ≠ ((.slice Ao25 t220.length co25) : Value).ownBlock ∧ k_ ≠ gb206 ∧ k_ ≠ gb207 ∧ k_ ≠ gb219) (.slice A1_0 l1_0.length c1_0) l1_0) ∧ Aside0 (Kd.V k36 36 w' w.heap.size (fun k_ => ((P1_0_ k_ ∨ P1_1_ k_) ∨ w.heap.size ≤ k_) ∧ some k_ ≠ ((.slice Ao25 t220.length co25) : Value).ownBlock ∧ some k_ ≠ ((.slice (some ad218) y215.length co15) : Value).ownBlock ∧ some k_ ≠ ((.slice Ao25 t220.length co25) : Value).ownBlock ∧ k_ ≠ gb206 ∧ k_ ≠ gb207 ∧ k_ ≠ gb219) (.slice A1_1 l1_1.length c1_1) l1_1) ∧ Aside0 (w'.heap[gb206]? = some (.cells #[.int .u8 a0_0, (.slice A0_1 l0_1.length c0_1), (.slice A0_2 l0_2.length c0_2), (.slice A0_3 l0_3.length c0_3), (.slice A0_4 l0_4.length c0_4), (.slice A0_5 l0_5.length c0_5)] 25 (0, 0))) ∧ Aside0 (w'.heap[gb207]? = some (.cells #[(.slice A1_0 l1_0.length c1_0), (.slice A1_1 l1_1.length c1_1)] 30 (0, 0))) ∧ Aside0 (w'.heap[gb219]? = some (.cells #[(.slice A218_0 ((rd_T30 y215 x29_1).f0).length c218_0), (.slice A218_1 ((rd_T30 y215 x29_1).f1).length c218_1)] 30 (0, 0))) ∧ Aside0 (Below w.heap.size w w') ∧ Aside0 (Below w24.heap.size w24 w'))
       case atStart => exact ⟨(0), (by first | rfl | (simp; done) | (simp [*]; done)), H', ⟨Nat.le_refl _⟩, ⟨by (with_reducible repeat (first | apply Kd.R_alloc | apply Kd.R_drewN | apply Kd.R_drew)); exact Kd.R_mono HO222.out (fun _ hk => hk.1)⟩, ⟨by (with_reducible repeat (first | apply Kd.N_alloc | apply Kd.N_drewN | apply Kd.N_drew)); exact Kd.N_mono HO_27.out (fun _ hk => ⟨hk.1.1.1, ⟨hk.2, ⟨hk.2, ⟨hk.1.1.2.1, ⟨hk.1.1.2.2, hk.1.2⟩⟩⟩⟩⟩)⟩, ⟨by (with_reducible repeat (first | apply Kd.R_alloc | apply Kd.R_drewN | apply Kd.R_drew)); exact Kd.R_mono HO222.out (fun _ hk => hk.1)⟩, ⟨by (with_reducible repeat (first | apply Kd.V_alloc | apply Kd.V_drewN | apply Kd.V_drew)); exact Kd.V_mono HO_208000.out (fun _ hk => ⟨hk.1.1.1, ⟨hk.2, ⟨hk.1.1.2.1, ⟨hk.2, ⟨hk.1.1.2.2.1, ⟨hk.1.1.2.2.2, hk.1.2⟩⟩⟩⟩⟩⟩)⟩, ⟨by (with_reducible repeat (first | apply Kd.V_alloc | apply Kd.V_drewN | apply Kd.V_drew)); exact Kd.V_mono HO_208001.out (fun _ hk => ⟨hk.1.1.1, ⟨hk.2, ⟨hk.1.1.2.1, ⟨hk.2, ⟨hk.1.1.2.2.1, ⟨hk.1.1.2.2.2, hk.1.2⟩⟩⟩⟩⟩⟩)⟩, ⟨bkq BK206⟩, ⟨bkq BK207⟩, ⟨bkq BK219⟩, ⟨by repeat (first | (with_reducible first | exact HB.out | apply below_alloc | apply pw_below_drewN | apply below_drew1 | refine below_set ?_ GE206.out | refine below_set ?_ GE207.out | refine below_set ?_ GE219.out) | exact HB.out)⟩, ⟨by repeat (first | (with_reducible first | exact HB2.out | exact Below.refl _ _ | apply below_alloc | apply pw_below_drewN | apply below_drew1) | exact HB2.out | exact Below.refl _ _)⟩⟩
       case round =>
        clear H'
        try clear c1
        try clear c2
        try clear p2 p2
        try clear q2
        try clear hx2
        try clear c4
        try clear c5
        try clear c7
        try clear c8
        try clear c10
        try clear c16
        try clear c16b0
        try clear c17
        try clear c17b0
        try clear c18
        try clear c18b0
        try clear c21
        try clear p21
        try clear q21
        try clear hx21
        try clear c22
        try clear hcz23_0 hcz23_1 hfz23_0 hfz23_1
        try clear hx218_0
        try clear hx218_1
        try clear p218
        try clear q218
        obtain ⟨x37_2, rfl, HA, HK2, HO_7, HO_27, HO_35, HO_208000, HO_208001, BK206, BK207, BK219, HB, HB2⟩ := hrel
        cases gk with
        | zero => exact absurd HA.out (by simp [maquettelaw13_LowerClasses.l1])
        | succ k2 =>
         have H := HA.out
         clear HA
         simp only [maquettelaw13_LowerClasses.l1] at H
         by_cases c26 : x37_2 < (t220.length : Int)
         ·rw [if_pos c26] at H
          have c26b0 := decide_eq_true c26
          clear c26
          by_cases c27 : 0 ≤ x37_2
          ·rw [if_pos c27] at H
           have c27b0 := decide_eq_true c27
           clear c27
           by_cases c28 : x37_2 < (t220.length : Int)
           ·rw [if_pos c28] at H
            have c28b0 := decide_eq_true c28
            clear c28
            have HC29 := Aside0.mk H
            clear H
            have p223 : 0 ≤ (x37_2 : Int) := of_decide_eq_true (by first | (with_reducible assumption) | assumption)
            have q223 : x37_2 < (t220.length : Int) := of_decide_eq_true (by first | (with_reducible assumption) | assumption)
            obtain ⟨ad223, e223, hx223_0, hx223_1⟩ := at_T42 (Kd.R_reads' HO_35.out).2.2 x37_2 p223 q223
            cases e223
            replace p223 := eq_true p223
            replace q223 := eq_true q223
            go_upto_region 10 with (first | ((with_reducible refine gate_dst (N := 9) rfl ?_); refine bx 9 (cs := #[.int .u32 0, .int .i64 0]) (t := 42) (h := ?_); intro gb224 hg w30 hbox hb; have BK224 := Aside0.mk hbox; have GW224 : Aside0 (w.heap.size ≤ gb224) := bge hg; have GE224 : Aside0 (w.heap.size ≤ gb224) := bge hg; have GE2_224 : Aside0 (w24.heap.size ≤ gb224) := ⟨by have h2_ := HB2.out.size; have h3_ := hg; omega⟩; have NB206_224 := bne BK206 hg; have NB224_206 := bnf BK206 hg; have NB207_224 := bne BK207 hg; have NB224_207 := bnf BK207 hg; have NB219_224 := bne BK219 hg; have NB224_219 := bnf BK219 hg; replace HO_7 := Aside0.mk (Kd.R_below (Kd.R_elderB (kR HO_7) gb224 (Nat.le_of_eq hg.symm)) hb); replace HO_27 := Aside0.mk (Kd.N_below (Kd.N_elderB (kN HO_27) gb224 (Nat.le_of_eq hg.symm)) hb); replace HO_35 := Aside0.mk (Kd.R_below (Kd.R_elderB (kR HO_35) gb224 (Nat.le_of_eq hg.symm)) hb); replace HO_208000 := Aside0.mk (Kd.V_below (Kd.V_elderB (kV HO_208000) gb224 (Nat.le_of_eq hg.symm)) hb); replace HO_208001 := Aside0.mk (Kd.V_below (Kd.V_elderB (kV HO_208001) gb224 (Nat.le_of_eq hg.symm)) hb); replace BK206 := bkb BK206 hb; replace BK207 := bkb BK207 hb; replace BK219 := bkb BK219 hb; replace HB := bst hb; replace HB2 := Aside0.mk (b2t HB2.out hb); clear hb hbox hg; have hnb31 := NB224_206.out; have hnc31 := NB206_224.out; have hnb32 := NB224_207.out; have hnc32 := NB207_224.out; have hnb33 := NB224_219.out; have hnc33 := NB219_224.out; obtain ⟨hcz34_0, hcz34_1, hfz34_0, hfz34_1⟩ := bc2 BK224))
            (try simp only [Act.put, List.setIfInBounds_toArray, List.set_cons_zero, List.set_cons_succ])
            go_cut [53] (fun v53 wc => ∃ (kq : Nat) (x53_28 : Bool), v53 = .bool x53_28 ∧ Aside0 (maquettelaw13_LowerClasses.j2 kq t220 y215 (y215.length : Int) x29_1 t220 (t220.length : Int) x37_2 x53_28 ((rd_T30 y215 x29_1).f0) ((rd_T30 y215 x29_1).f1) ((rd_T42 t220 x37_2).f0) ((rd_T42 t220 x37_2).f1) = some r) ∧ Aside0 (kq ≤ k2) ∧ Aside0 (Kd.R k42 42 wc w.heap.size (fun k_ => (w.heap.size ≤ k_) ∧ k_ ≠ gb224) (.slice (some ad223) t220.length co25) t220) ∧ Aside0 (Kd.N k30 30 wc w.heap.size (fun k_ => ((P1_0_ k_ ∨ P1_1_ k_) ∨ w.heap.size ≤ k_) ∧ some k_ ≠ ((.slice (some ad223) t220.length co25) : Value).ownBlock ∧ some k_ ≠ ((.slice (some ad223) t220.length co25) : Value).ownBlock ∧ k_ ≠ gb206 ∧ k_ ≠ gb207 ∧ k_ ≠ gb219 ∧ k_ ≠ gb224) (.slice (some ad218) y215.length co15) y215) ∧ Aside0 (Kd.R k42 42 wc w.heap.size (fun k_ => (w.heap.size ≤ k_) ∧ k_ ≠ gb224) (.slice (some ad223) t220.length co25) t220) ∧ Aside0 (Kd.V k63 63 wc w.heap.size (fun k_ => ((P1_0_ k_ ∨ P1_1_ k_) ∨ w.heap.size ≤ k_) ∧ some k_ ≠ ((.slice (some ad223) t220.length co25) : Value).ownBlock ∧ some k_ ≠ ((.slice (some ad218) y215.length co15) : Value).ownBlock ∧ some k_ ≠ ((.slice (some ad223) t220.length co25) : Value).ownBlock ∧ k_ ≠ gb206 ∧ k_ ≠ gb207 ∧ k_ ≠ gb219 ∧ k_ ≠ gb224) (.slice A1_0 l1_0.length c1_0) l1_0) ∧ Aside0 (Kd.V k36 36 wc w.heap.size (fun k_ => ((P1_0_ k_ ∨ P1_1_ k_) ∨ w.heap.size ≤ k_) ∧ some k_ ≠ ((.slice (some ad223) t220.length co25) : Value).ownBlock ∧ some k_ ≠ ((.slice (some ad218) y215.length co15) : Value).ownBlock ∧ some k_ ≠ ((.slice (some ad223) t220.length co25) : Value).ownBlock ∧ k_ ≠ gb206 ∧ k_ ≠ gb207 ∧ k_ ≠ gb219 ∧ k_ ≠ gb224) (.slice A1_1 l1_1.length c1_1) l1_1) ∧ Aside0 (wc.heap[gb206]? = some (.cells #[.int .u8 a0_0, (.slice A0_1 l0_1.length c0_1), (.slice A0_2 l0_2.length c0_2), (.slice A0_3 l0_3.length c0_3), (.slice A0_4 l0_4.length c0_4), (.slice A0_5 l0_5.length c0_5)] 25 (0, 0))) ∧ Aside0 (wc.heap[gb207]? = some (.cells #[(.slice A1_0 l1_0.length c1_0), (.slice A1_1 l1_1.length c1_1)] 30 (0, 0))) ∧ Aside0 (wc.heap[gb219]? = some (.cells #[(.slice A218_0 ((rd_T30 y215 x29_1).f0).length c218_0), (.slice A218_1 ((rd_T30 y215 x29_1).f1).length c218_1)] 30 (0, 0))) ∧ Aside0 (wc.heap[gb224]? = some (.cells #[.int .u32 ((rd_T42 t220 x37_2).f0), .int .i64 ((rd_T42 t220 x37_2).f1)] 42 (0, 0))) ∧ Aside0 (Below w.heap.size w wc) ∧ Aside0 (Below w24.heap.size w24 wc))
            case first =>
             have H := HC29.out
             clear HC29
             by_cases c35 : x37_2 > 0
             ·rw [if_pos c35] at H
              have c35b0 : decide (0 < x37_2) = true := decide_eq_true c35
              clear c35
              (first | rw [c35b0] | (simp only [i64_w, i32_w]; rw [c35b0]) | skip)
              obtain ⟨ji36, hji36⟩ : ∃ j_ : Int, (wrap64 (x37_2 - 1)) = j_ := ⟨_, rfl⟩
              replace H : (if 0 ≤ (ji36) then (if (ji36) < (t220.length : Int) then ((prefix_Less.f ((rd_T42 t220 (ji36)).f0) ((rd_T42 t220 (ji36)).f1) ((rd_T42 t220 x37_2).f0) ((rd_T42 t220 x37_2).f1)).bind fun t226 => (maquettelaw13_LowerClasses.j2 k2 t220 y215 (y215.length : Int) x29_1 t220 (t220.length : Int) x37_2 (!t226) ((rd_T30 y215 x29_1).f0) ((rd_T30 y215 x29_1).f1) ((rd_T42 t220 x37_2).f0) ((rd_T42 t220 x37_2).f1))) else (none)) else (none)) = some r := by first | (rw [hji36] at H; exact H) | (simp only [hji36] at H ⊢; exact H)
              have hji36w : (IntKind.i64.wrap (x37_2 - 1)) = ji36 := (i64_w _).trans hji36
              by_cases c37 : 0 ≤ (ji36)
              ·rw [if_pos c37] at H
               have c37b0 := decide_eq_true c37
               clear c37
               by_cases c38 : (ji36) < (t220.length : Int)
               ·rw [if_pos c38] at H
                have c38b0 := decide_eq_true c38
                clear c38
                replace H := Option.bind_eq_some_iff.mp H
                obtain ⟨t226, A390, H⟩ := H
                replace H : (maquettelaw13_LowerClasses.j2 k2 t220 y215 (y215.length : Int) x29_1 t220 (t220.length : Int) x37_2 (!t226) ((rd_T30 y215 x29_1).f0) ((rd_T30 y215 x29_1).f1) ((rd_T42 t220 x37_2).f0) ((rd_T42 t220 x37_2).f1)) = some r := H
                have A39 := Aside0.mk A390
                clear A390
                have H' := Aside0.mk H
                clear H
                try go_wp2
                have n0_ : Aside0 (Kd.R k42 42 ((w30.setCell ⟨gb224, 0, none⟩ (.int .u32 ((rd_T42 t220 x37_2).f0))).setCell ⟨gb224, 1, none⟩ (.int .i64 ((rd_T42 t220 x37_2).f1))) w.heap.size (fun k_ => (w.heap.size ≤ k_) ∧ k_ ≠ gb224) (.slice (some ad223) t220.length co25) t220) := ⟨by (with_reducible repeat (first | apply Kd.R_alloc | apply Kd.R_drewN | apply Kd.R_drew)); exact Kd.R_mono (Kd.R_far (p := ⟨gb224, 1, none⟩) (Kd.R_far (p := ⟨gb224, 0, none⟩) (Kd.R_mono HO_7.out (fun k_ hk => (⟨hk, hk.2⟩ : _ ∧ k_ ≠ gb224))) (fun _ hk => hk.2) (.int .u32 ((rd_T42 t220 x37_2).f0))) (fun _ hk => hk.2) (.int .i64 ((rd_T42 t220 x37_2).f1))) (fun _ hk => ⟨hk.1.1, hk.1.2⟩)⟩
                have n1_ : Aside0 (Kd.N k30 30 ((w30.setCell ⟨gb224, 0, none⟩ (.int .u32 ((rd_T42 t220 x37_2).f0))).setCell ⟨gb224, 1, none⟩ (.int .i64 ((rd_T42 t220 x37_2).f1))) w.heap.size (fun k_ => ((P1_0_ k_ ∨ P1_1_ k_) ∨ w.heap.size ≤ k_) ∧ some k_ ≠ (.slice (some ad223) t220.length co25 : Value).ownBlock ∧ some k_ ≠ (.slice (some ad223) t220.length co25 : Value).ownBlock ∧ k_ ≠ gb206 ∧ k_ ≠ gb207 ∧ k_ ≠ gb219 ∧ k_ ≠ gb224) (.slice (some ad218) y215.length co15) y215) := ⟨by (with_reducible repeat (first | apply Kd.N_alloc | apply Kd.N_drewN | apply Kd.N_drew)); exact Kd.N_mono (Kd.N_far (p := ⟨gb224, 1, none⟩) (Kd.N_far (p := ⟨gb224, 0, none⟩) (Kd.N_mono HO_27.out (fun k_ hk => (⟨hk, hk.2⟩ : _ ∧ k_ ≠ gb224))) (fun _ hk => hk.2) (.int .u32 ((rd_T42 t220 x37_2).f0))) (fun _ hk => hk.2) (.int .i64 ((rd_T42 t220 x37_2).f1))) (fun _ hk => ⟨hk.1.1.1, ⟨hk.1.1.2.1, ⟨hk.1.1.2.2.1, ⟨hk.1.1.2.2.2.1, ⟨hk.1.1.2.2.2.2.1, ⟨hk.1.1.2.2.2.2.2, hk.1.2⟩⟩⟩⟩⟩⟩)⟩
                have n2_ : Aside0 (Kd.R k42 42 ((w30.setCell ⟨gb224, 0, none⟩ (.int .u32 ((rd_T42 t220 x37_2).f0))).setCell ⟨gb224, 1, none⟩ (.int .i64 ((rd_T42 t220 x37_2).f1))) w.heap.size (fun k_ => (w.heap.size ≤ k_) ∧ k_ ≠ gb224) (.slice (some ad223) t220.length co25) t220) := ⟨by (with_reducible repeat (first | apply Kd.R_alloc | apply Kd.R_drewN | apply Kd.R_drew)); exact Kd.R_mono (Kd.R_far (p := ⟨gb224, 1, none⟩) (Kd.R_far (p := ⟨gb224, 0, none⟩) (Kd.R_mono HO_35.out (fun k_ hk => (⟨hk, hk.2⟩ : _ ∧ k_ ≠ gb224))) (fun _ hk => hk.2) (.int .u32 ((rd_T42 t220 x37_2).f0))) (fun _ hk => hk.2) (.int .i64 ((rd_T42 t220 x37_2).f1))) (fun _ hk => ⟨hk.1.1, hk.1.2⟩)⟩
                have n3_ : Aside0 (Kd.V k63 63 ((w30.setCell ⟨gb224, 0, none⟩ (.int .u32 ((rd_T42 t220 x37_2).f0))).setCell ⟨gb224, 1, none⟩ (.int .i64 ((rd_T42 t220 x37_2).f1))) w.heap.size (fun k_ => ((P1_0_ k_ ∨ P1_1_ k_) ∨ w.heap.size ≤ k_) ∧ some k_ ≠ (.slice (some ad223) t220.length co25 : Value).ownBlock ∧ some k_ ≠ (.slice (some ad218) y215.length co15 : Value).ownBlock ∧ some k_ ≠ (.slice (some ad223) t220.length co25 : Value).ownBlock ∧ k_ ≠ gb206 ∧ k_ ≠ gb207 ∧ k_ ≠ gb219 ∧ k_ ≠ gb224) (.slice A1_0 l1_0.length c1_0) l1_0) := ⟨by (with_reducible repeat (first | apply Kd.V_alloc | apply Kd.V_drewN | apply Kd.V_drew)); exact Kd.V_mono (Kd.V_far (p := ⟨gb224, 1, none⟩) (Kd.V_far (p := ⟨gb224, 0, none⟩) (Kd.V_mono HO_208000.out (fun k_ hk => (⟨hk, hk.2⟩ : _ ∧ k_ ≠ gb224))) (fun _ hk => hk.2) (.int .u32 ((rd_T42 t220 x37_2).f0))) (fun _ hk => hk.2) (.int .i64 ((rd_T42 t220 x37_2).f1))) (fun _ hk => ⟨hk.1.1.1, ⟨hk.1.1.2.1, ⟨hk.1.1.2.2.1, ⟨hk.1.1.2.2.2.1, ⟨hk.1.1.2.2.2.2.1, ⟨hk.1.1.2.2.2.2.2.1, ⟨hk.1.1.2.2.2.2.2.2, hk.1.2⟩⟩⟩⟩⟩⟩⟩)⟩
                have n4_ : Aside0 (Kd.V k36 36 ((w30.setCell ⟨gb224, 0, none⟩ (.int .u32 ((rd_T42 t220 x37_2).f0))).setCell ⟨gb224, 1, none⟩ (.int .i64 ((rd_T42 t220 x37_2).f1))) w.heap.size (fun k_ => ((P1_0_ k_ ∨ P1_1_ k_) ∨ w.heap.size ≤ k_) ∧ some k_ ≠ (.slice (some ad223) t220.length co25 : Value).ownBlock ∧ some k_ ≠ (.slice (some ad218) y215.length co15 : Value).ownBlock ∧ some k_ ≠ (.slice (some ad223) t220.length co25 : Value).ownBlock ∧ k_ ≠ gb206 ∧ k_ ≠ gb207 ∧ k_ ≠ gb219 ∧ k_ ≠ gb224) (.slice A1_1 l1_1.length c1_1) l1_1) := ⟨by (with_reducible repeat (first | apply Kd.V_alloc | apply Kd.V_drewN | apply Kd.V_drew)); exact Kd.V_mono (Kd.V_far (p := ⟨gb224, 1, none⟩) (Kd.V_far (p := ⟨gb224, 0, none⟩) (Kd.V_mono HO_208001.out (fun k_ hk => (⟨hk, hk.2⟩ : _ ∧ k_ ≠ gb224))) (fun _ hk => hk.2) (.int .u32 ((rd_T42 t220 x37_2).f0))) (fun _ hk => hk.2) (.int .i64 ((rd_T42 t220 x37_2).f1))) (fun _ hk => ⟨hk.1.1.1, ⟨hk.1.1.2.1, ⟨hk.1.1.2.2.1, ⟨hk.1.1.2.2.2.1, ⟨hk.1.1.2.2.2.2.1, ⟨hk.1.1.2.2.2.2.2.1, ⟨hk.1.1.2.2.2.2.2.2, hk.1.2⟩⟩⟩⟩⟩⟩⟩)⟩
                have n5_ : Aside0 (((w30.setCell ⟨gb224, 0, none⟩ (.int .u32 ((rd_T42 t220 x37_2).f0))).setCell ⟨gb224, 1, none⟩ (.int .i64 ((rd_T42 t220 x37_2).f1))).heap[gb206]? = some (.cells #[.int .u8 a0_0, .slice A0_1 l0_1.length c0_1, .slice A0_2 l0_2.length c0_2, .slice A0_3 l0_3.length c0_3, .slice A0_4 l0_4.length c0_4, .slice A0_5 l0_5.length c0_5] 25 (0, 0))) := ⟨bkq BK206⟩
                have n6_ : Aside0 (((w30.setCell ⟨gb224, 0, none⟩ (.int .u32 ((rd_T42 t220 x37_2).f0))).setCell ⟨gb224, 1, none⟩ (.int .i64 ((rd_T42 t220 x37_2).f1))).heap[gb207]? = some (.cells #[.slice A1_0 l1_0.length c1_0, .slice A1_1 l1_1.length c1_1] 30 (0, 0))) := ⟨bkq BK207⟩
                have n7_ : Aside0 (((w30.setCell ⟨gb224, 0, none⟩ (.int .u32 ((rd_T42 t220 x37_2).f0))).setCell ⟨gb224, 1, none⟩ (.int .i64 ((rd_T42 t220 x37_2).f1))).heap[gb219]? = some (.cells #[.slice A218_0 ((rd_T30 y215 x29_1).f0).length c218_0, .slice A218_1 ((rd_T30 y215 x29_1).f1).length c218_1] 30 (0, 0))) := ⟨bkq BK219⟩
                have n8_ : Aside0 (((w30.setCell ⟨gb224, 0, none⟩ (.int .u32 ((rd_T42 t220 x37_2).f0))).setCell ⟨gb224, 1, none⟩ (.int .i64 ((rd_T42 t220 x37_2).f1))).heap[gb224]? = some (.cells #[.int .u32 ((rd_T42 t220 x37_2).f0), .int .i64 ((rd_T42 t220 x37_2).f1)] 42 (0, 0))) := ⟨bkp BK224⟩
                have n9_ : Aside0 (Below w.heap.size w ((w30.setCell ⟨gb224, 0, none⟩ (.int .u32 ((rd_T42 t220 x37_2).f0))).setCell ⟨gb224, 1, none⟩ (.int .i64 ((rd_T42 t220 x37_2).f1)))) := ⟨by repeat (first | (with_reducible first | exact HB.out | apply below_alloc | apply pw_below_drewN | apply below_drew1 | refine below_set ?_ GE206.out | refine below_set ?_ GE207.out | refine below_set ?_ GE219.out | refine below_set ?_ GE224.out) | exact HB.out)⟩
                have n9x_ : Aside0 (Below w24.heap.size w24 ((w30.setCell ⟨gb224, 0, none⟩ (.int .u32 ((rd_T42 t220 x37_2).f0))).setCell ⟨gb224, 1, none⟩ (.int .i64 ((rd_T42 t220 x37_2).f1)))) := ⟨by repeat (first | (with_reducible first | exact HB2.out | exact Below.refl _ _ | apply below_alloc | apply pw_below_drewN | apply below_drew1 | refine below_set ?_ GE2_224.out) | exact HB2.out | exact Below.refl _ _)⟩
                (try clear HO_7)
                (try clear HO_27)
                (try clear HO_35)
                (try clear HO_208000)
                (try clear HO_208001)
                (try clear BK206)
                (try clear BK207)
                (try clear BK219)
                (try clear BK224)
                (try clear HB)
                (try clear HB2)
                generalize ((w30.setCell ⟨gb224, 0, none⟩ (.int .u32 ((rd_T42 t220 x37_2).f0))).setCell ⟨gb224, 1, none⟩ (.int .i64 ((rd_T42 t220 x37_2).f1))) = w40 at n0_ n1_ n2_ n3_ n4_ n5_ n6_ n7_ n8_ n9_ n9x_ ⊢
                have HO_7 := n0_
                have HO_27 := n1_
                have HO_35 := n2_
                have HO_208000 := n3_
                have HO_208001 := n4_
                have BK206 := n5_
                have BK207 := n6_
                have BK219 := n7_
                have BK224 := n8_
                have HB := n9_
                have HB2 := n9x_
                clear n0_ n1_ n2_ n3_ n4_ n5_ n6_ n7_ n8_ n9_ n9x_
                replace HO_7 := Aside0.mk (Kd.R_drew HO_7.out)
                replace HO_27 := Aside0.mk (Kd.N_drew HO_27.out)
                replace HO_35 := Aside0.mk (Kd.R_drew HO_35.out)
                replace HO_208000 := Aside0.mk (Kd.V_drew HO_208000.out)
                replace HO_208001 := Aside0.mk (Kd.V_drew HO_208001.out)
                replace BK206 := Aside0.mk (blk_drew BK206.out)
                replace BK207 := Aside0.mk (blk_drew BK207.out)
                replace BK219 := Aside0.mk (blk_drew BK219.out)
                replace BK224 := Aside0.mk (blk_drew BK224.out)
                replace HB := Aside0.mk (below_drew1 HB.out)
                replace HB2 := Aside0.mk (below_drew1 HB2.out)
                have p225 : 0 ≤ ((ji36) : Int) := of_decide_eq_true (by first | (with_reducible assumption) | assumption)
                have q225 : (ji36) < (t220.length : Int) := of_decide_eq_true (by first | (with_reducible assumption) | assumption)
                obtain ⟨ad225, e225, hx225_0, hx225_1⟩ := at_T42 (Kd.R_reads' HO_7.out).2.2 (ji36) p225 q225
                obtain rfl : ad223 = ad225 := (by injection e225)
                replace p225 := eq_true p225
                replace q225 := eq_true q225
                refine start_ (n := 12) (S := fun w' => CS2 w' gb224 (.int .u32 ((rd_T42 t220 x37_2).f0)) (.int .i64 ((rd_T42 t220 x37_2).f1)) (w'.cell? (ad223.add (((ji36)).toNat * 2)) = some (.int .u32 ((rd_T42 t220 (ji36)).f0)) ∧ w'.cell? ⟨(ad223.add (((ji36)).toNat * 2)).block, (ad223.add (((ji36)).toNat * 2)).off + 1, none⟩ = some (.int .i64 ((rd_T42 t220 (ji36)).f1)))) (ds := []) #[false, false, false, false, false, false, false, false, false, false, false, false] (by kernel_rfl) rfl rfl ⟨(blk_cell BK224.out 0).trans rfl, (blk_cell BK224.out 1).trans rfl, hx225_0, hx225_1⟩ (fun hHeld => ?_); refine with_tabW maquettelaw13_LowerClasses.tab10 maquettelaw13_LowerClasses.bits10 (fun HT_ HW_ => ?_)
                generalize w40.drew = w41 at HO_7 HO_27 HO_35 HO_208000 HO_208001 BK206 BK207 BK219 BK224 HB HB2 hx225_0 hx225_1 hHeld ⊢
                refine pu HT_ 0 (some 42) (mk 12 1) ?_
                refine pu HT_ 1 (some 43) (mk 12 3) ?_
                refine pu HT_ 2 (some 44) (mk 12 7) ?_
                refine pu HT_ 3 (some 45) (mk 12 15) ?_
                refine pu HT_ 4 (some 46) (mk 12 31) ?_
                refine pu HT_ 5 (some 47) (mk 12 63) ?_
                refine pu HT_ 6 (some 48) (mk 12 127) ?_
                refine tk HT_ HW_ 7 (some 49) (mk 12 255) hHeld ?_
                refine tk HT_ HW_ 8 (some 50) (mk 12 511) hHeld ?_
                refine on HT_ 9 (some 51) (mk 12 1023) fun K hK => ?_
                refine goes_ Try.func14 (by kernel_rfl) rfl #[.agg #[.int .u32 ((rd_T42 t220 (ji36)).f0), .int .i64 ((rd_T42 t220 (ji36)).f1)], .agg #[.int .u32 ((rd_T42 t220 x37_2).f0), .int .i64 ((rd_T42 t220 x37_2).f1)]] (by rfl) rfl rfl (by (try simp only [List.map_toArray, List.map_cons, List.map_nil]); first | done | (simp only [hji36]; rfl) | rfl | (simp only [List.length_drop, List.length_take]; rfl)) ?_
                with_reducible refine (prefix_Less.calls ((rd_T42 t220 (ji36)).f0) ((rd_T42 t220 (ji36)).f1) ((rd_T42 t220 x37_2).f0) ((rd_T42 t220 x37_2).f1) t226 _ A39.out).mono ?_
                rintro e w42 ⟨rfl, hb⟩
                have HS2_ := (hb.cell (World.block_lt_of_cell? _ _ (hHeld.2.2.1))).trans (hHeld.2.2.1)
                have HS3_ := (hb.cell (World.block_lt_of_cell? _ _ (hHeld.2.2.2))).trans (hHeld.2.2.2)
                refine ⟨_, rfl, ?_⟩
                replace HO_7 := Aside0.mk (Kd.R_below (kR HO_7) hb)
                replace HO_27 := Aside0.mk (Kd.N_below (kN HO_27) hb)
                replace HO_35 := Aside0.mk (Kd.R_below (kR HO_35) hb)
                replace HO_208000 := Aside0.mk (Kd.V_below (kV HO_208000) hb)
                replace HO_208001 := Aside0.mk (Kd.V_below (kV HO_208001) hb)
                replace BK206 := bkb BK206 hb
                replace BK207 := bkb BK207 hb
                replace BK219 := bkb BK219 hb
                replace BK224 := bkb BK224 hb
                replace HB := bst hb; replace HB2 := Aside0.mk (b2t HB2.out hb)
                (try clear hb)
                (try clear hb2)
                (try clear hk)
                (try clear hi)
                refine hK.out _ _ ⟨(blk_cell BK224.out 0).trans rfl, (blk_cell BK224.out 1).trans rfl, HS2_, HS3_⟩ (fun hHeld => ?_)
                clear hK K
                refine nm (some 51) ?_
                refine pu HT_ 10 (some 52) (mk 12 2047) ?_
                refine pu HT_ 11 (some 53) (mk 12 4095) ?_
                refine done_ (done_of HT_.out (by kernel_rfl)) ?_
                try go_wp2
                go_meet
                case rel => exact ⟨_, (!t226), (by first | rfl | (simp; done) | (simp [*]; done)), H', ⟨by have := HK1.out; have := HK2.out; first | omega | exact Nat.le_refl _⟩, ⟨by (with_reducible repeat (first | apply Kd.R_alloc | apply Kd.R_drewN | apply Kd.R_drew)); exact HO_7.out⟩, ⟨by (with_reducible repeat (first | apply Kd.N_alloc | apply Kd.N_drewN | apply Kd.N_drew)); exact HO_27.out⟩, ⟨by (with_reducible repeat (first | apply Kd.R_alloc | apply Kd.R_drewN | apply Kd.R_drew)); exact HO_35.out⟩, ⟨by (with_reducible repeat (first | apply Kd.V_alloc | apply Kd.V_drewN | apply Kd.V_drew)); exact HO_208000.out⟩, ⟨by (with_reducible repeat (first | apply Kd.V_alloc | apply Kd.V_drewN | apply Kd.V_drew)); exact HO_208001.out⟩, ⟨bkq BK206⟩, ⟨bkq BK207⟩, ⟨bkq BK219⟩, ⟨bkq BK224⟩, ⟨by repeat (first | (with_reducible first | exact HB.out | apply below_alloc | apply pw_below_drewN | apply below_drew1 | refine below_set ?_ GE206.out | refine below_set ?_ GE207.out | refine below_set ?_ GE219.out | refine below_set ?_ GE224.out) | exact HB.out)⟩, ⟨by repeat (first | (with_reducible first | exact HB2.out | exact Below.refl _ _ | apply below_alloc | apply pw_below_drewN | apply below_drew1 | refine below_set ?_ GE2_224.out) | exact HB2.out | exact Below.refl _ _)⟩⟩
               ·rw [if_neg c38] at H
                exact absurd H (by simp)
              ·rw [if_neg c37] at H
               exact absurd H (by simp)
             ·rw [if_neg c35] at H
              have c35b0 : decide (0 < x37_2) = false := decide_eq_false c35
              clear c35
              (first | rw [c35b0] | (simp only [i64_w, i32_w]; rw [c35b0]) | skip)
              have H' := Aside0.mk H
              clear H
              try go_wp2
              have n0_ : Aside0 (Kd.R k42 42 ((w30.setCell ⟨gb224, 0, none⟩ (.int .u32 ((rd_T42 t220 x37_2).f0))).setCell ⟨gb224, 1, none⟩ (.int .i64 ((rd_T42 t220 x37_2).f1))) w.heap.size (fun k_ => (w.heap.size ≤ k_) ∧ k_ ≠ gb224) (.slice (some ad223) t220.length co25) t220) := ⟨by (with_reducible repeat (first | apply Kd.R_alloc | apply Kd.R_drewN | apply Kd.R_drew)); exact Kd.R_mono (Kd.R_far (p := ⟨gb224, 1, none⟩) (Kd.R_far (p := ⟨gb224, 0, none⟩) (Kd.R_mono HO_7.out (fun k_ hk => (⟨hk, hk.2⟩ : _ ∧ k_ ≠ gb224))) (fun _ hk => hk.2) (.int .u32 ((rd_T42 t220 x37_2).f0))) (fun _ hk => hk.2) (.int .i64 ((rd_T42 t220 x37_2).f1))) (fun _ hk => ⟨hk.1.1, hk.1.2⟩)⟩
              have n1_ : Aside0 (Kd.N k30 30 ((w30.setCell ⟨gb224, 0, none⟩ (.int .u32 ((rd_T42 t220 x37_2).f0))).setCell ⟨gb224, 1, none⟩ (.int .i64 ((rd_T42 t220 x37_2).f1))) w.heap.size (fun k_ => ((P1_0_ k_ ∨ P1_1_ k_) ∨ w.heap.size ≤ k_) ∧ some k_ ≠ (.slice (some ad223) t220.length co25 : Value).ownBlock ∧ some k_ ≠ (.slice (some ad223) t220.length co25 : Value).ownBlock ∧ k_ ≠ gb206 ∧ k_ ≠ gb207 ∧ k_ ≠ gb219 ∧ k_ ≠ gb224) (.slice (some ad218) y215.length co15) y215) := ⟨by (with_reducible repeat (first | apply Kd.N_alloc | apply Kd.N_drewN | apply Kd.N_drew)); exact Kd.N_mono (Kd.N_far (p := ⟨gb224, 1, none⟩) (Kd.N_far (p := ⟨gb224, 0, none⟩) (Kd.N_mono HO_27.out (fun k_ hk => (⟨hk, hk.2⟩ : _ ∧ k_ ≠ gb224))) (fun _ hk => hk.2) (.int .u32 ((rd_T42 t220 x37_2).f0))) (fun _ hk => hk.2) (.int .i64 ((rd_T42 t220 x37_2).f1))) (fun _ hk => ⟨hk.1.1.1, ⟨hk.1.1.2.1, ⟨hk.1.1.2.2.1, ⟨hk.1.1.2.2.2.1, ⟨hk.1.1.2.2.2.2.1, ⟨hk.1.1.2.2.2.2.2, hk.1.2⟩⟩⟩⟩⟩⟩)⟩
              have n2_ : Aside0 (Kd.R k42 42 ((w30.setCell ⟨gb224, 0, none⟩ (.int .u32 ((rd_T42 t220 x37_2).f0))).setCell ⟨gb224, 1, none⟩ (.int .i64 ((rd_T42 t220 x37_2).f1))) w.heap.size (fun k_ => (w.heap.size ≤ k_) ∧ k_ ≠ gb224) (.slice (some ad223) t220.length co25) t220) := ⟨by (with_reducible repeat (first | apply Kd.R_alloc | apply Kd.R_drewN | apply Kd.R_drew)); exact Kd.R_mono (Kd.R_far (p := ⟨gb224, 1, none⟩) (Kd.R_far (p := ⟨gb224, 0, none⟩) (Kd.R_mono HO_35.out (fun k_ hk => (⟨hk, hk.2⟩ : _ ∧ k_ ≠ gb224))) (fun _ hk => hk.2) (.int .u32 ((rd_T42 t220 x37_2).f0))) (fun _ hk => hk.2) (.int .i64 ((rd_T42 t220 x37_2).f1))) (fun _ hk => ⟨hk.1.1, hk.1.2⟩)⟩
              have n3_ : Aside0 (Kd.V k63 63 ((w30.setCell ⟨gb224, 0, none⟩ (.int .u32 ((rd_T42 t220 x37_2).f0))).setCell ⟨gb224, 1, none⟩ (.int .i64 ((rd_T42 t220 x37_2).f1))) w.heap.size (fun k_ => ((P1_0_ k_ ∨ P1_1_ k_) ∨ w.heap.size ≤ k_) ∧ some k_ ≠ (.slice (some ad223) t220.length co25 : Value).ownBlock ∧ some k_ ≠ (.slice (some ad218) y215.length co15 : Value).ownBlock ∧ some k_ ≠ (.slice (some ad223) t220.length co25 : Value).ownBlock ∧ k_ ≠ gb206 ∧ k_ ≠ gb207 ∧ k_ ≠ gb219 ∧ k_ ≠ gb224) (.slice A1_0 l1_0.length c1_0) l1_0) := ⟨by (with_reducible repeat (first | apply Kd.V_alloc | apply Kd.V_drewN | apply Kd.V_drew)); exact Kd.V_mono (Kd.V_far (p := ⟨gb224, 1, none⟩) (Kd.V_far (p := ⟨gb224, 0, none⟩) (Kd.V_mono HO_208000.out (fun k_ hk => (⟨hk, hk.2⟩ : _ ∧ k_ ≠ gb224))) (fun _ hk => hk.2) (.int .u32 ((rd_T42 t220 x37_2).f0))) (fun _ hk => hk.2) (.int .i64 ((rd_T42 t220 x37_2).f1))) (fun _ hk => ⟨hk.1.1.1, ⟨hk.1.1.2.1, ⟨hk.1.1.2.2.1, ⟨hk.1.1.2.2.2.1, ⟨hk.1.1.2.2.2.2.1, ⟨hk.1.1.2.2.2.2.2.1, ⟨hk.1.1.2.2.2.2.2.2, hk.1.2⟩⟩⟩⟩⟩⟩⟩)⟩
              have n4_ : Aside0 (Kd.V k36 36 ((w30.setCell ⟨gb224, 0, none⟩ (.int .u32 ((rd_T42 t220 x37_2).f0))).setCell ⟨gb224, 1, none⟩ (.int .i64 ((rd_T42 t220 x37_2).f1))) w.heap.size (fun k_ => ((P1_0_ k_ ∨ P1_1_ k_) ∨ w.heap.size ≤ k_) ∧ some k_ ≠ (.slice (some ad223) t220.length co25 : Value).ownBlock ∧ some k_ ≠ (.slice (some ad218) y215.length co15 : Value).ownBlock ∧ some k_ ≠ (.slice (some ad223) t220.length co25 : Value).ownBlock ∧ k_ ≠ gb206 ∧ k_ ≠ gb207 ∧ k_ ≠ gb219 ∧ k_ ≠ gb224) (.slice A1_1 l1_1.length c1_1) l1_1) := ⟨by (with_reducible repeat (first | apply Kd.V_alloc | apply Kd.V_drewN | apply Kd.V_drew)); exact Kd.V_mono (Kd.V_far (p := ⟨gb224, 1, none⟩) (Kd.V_far (p := ⟨gb224, 0, none⟩) (Kd.V_mono HO_208001.out (fun k_ hk => (⟨hk, hk.2⟩ : _ ∧ k_ ≠ gb224))) (fun _ hk => hk.2) (.int .u32 ((rd_T42 t220 x37_2).f0))) (fun _ hk => hk.2) (.int .i64 ((rd_T42 t220 x37_2).f1))) (fun _ hk => ⟨hk.1.1.1, ⟨hk.1.1.2.1, ⟨hk.1.1.2.2.1, ⟨hk.1.1.2.2.2.1, ⟨hk.1.1.2.2.2.2.1, ⟨hk.1.1.2.2.2.2.2.1, ⟨hk.1.1.2.2.2.2.2.2, hk.1.2⟩⟩⟩⟩⟩⟩⟩)⟩
              have n5_ : Aside0 (((w30.setCell ⟨gb224, 0, none⟩ (.int .u32 ((rd_T42 t220 x37_2).f0))).setCell ⟨gb224, 1, none⟩ (.int .i64 ((rd_T42 t220 x37_2).f1))).heap[gb206]? = some (.cells #[.int .u8 a0_0, .slice A0_1 l0_1.length c0_1, .slice A0_2 l0_2.length c0_2, .slice A0_3 l0_3.length c0_3, .slice A0_4 l0_4.length c0_4, .slice A0_5 l0_5.length c0_5] 25 (0, 0))) := ⟨bkq BK206⟩
              have n6_ : Aside0 (((w30.setCell ⟨gb224, 0, none⟩ (.int .u32 ((rd_T42 t220 x37_2).f0))).setCell ⟨gb224, 1, none⟩ (.int .i64 ((rd_T42 t220 x37_2).f1))).heap[gb207]? = some (.cells #[.slice A1_0 l1_0.length c1_0, .slice A1_1 l1_1.length c1_1] 30 (0, 0))) := ⟨bkq BK207⟩
              have n7_ : Aside0 (((w30.setCell ⟨gb224, 0, none⟩ (.int .u32 ((rd_T42 t220 x37_2).f0))).setCell ⟨gb224, 1, none⟩ (.int .i64 ((rd_T42 t220 x37_2).f1))).heap[gb219]? = some (.cells #[.slice A218_0 ((rd_T30 y215 x29_1).f0).length c218_0, .slice A218_1 ((rd_T30 y215 x29_1).f1).length c218_1] 30 (0, 0))) := ⟨bkq BK219⟩
              have n8_ : Aside0 (((w30.setCell ⟨gb224, 0, none⟩ (.int .u32 ((rd_T42 t220 x37_2).f0))).setCell ⟨gb224, 1, none⟩ (.int .i64 ((rd_T42 t220 x37_2).f1))).heap[gb224]? = some (.cells #[.int .u32 ((rd_T42 t220 x37_2).f0), .int .i64 ((rd_T42 t220 x37_2).f1)] 42 (0, 0))) := ⟨bkp BK224⟩
              have n9_ : Aside0 (Below w.heap.size w ((w30.setCell ⟨gb224, 0, none⟩ (.int .u32 ((rd_T42 t220 x37_2).f0))).setCell ⟨gb224, 1, none⟩ (.int .i64 ((rd_T42 t220 x37_2).f1)))) := ⟨by repeat (first | (with_reducible first | exact HB.out | apply below_alloc | apply pw_below_drewN | apply below_drew1 | refine below_set ?_ GE206.out | refine below_set ?_ GE207.out | refine below_set ?_ GE219.out | refine below_set ?_ GE224.out) | exact HB.out)⟩
              have n9x_ : Aside0 (Below w24.heap.size w24 ((w30.setCell ⟨gb224, 0, none⟩ (.int .u32 ((rd_T42 t220 x37_2).f0))).setCell ⟨gb224, 1, none⟩ (.int .i64 ((rd_T42 t220 x37_2).f1)))) := ⟨by repeat (first | (with_reducible first | exact HB2.out | exact Below.refl _ _ | apply below_alloc | apply pw_below_drewN | apply below_drew1 | refine below_set ?_ GE2_224.out) | exact HB2.out | exact Below.refl _ _)⟩
              (try clear HO_7)
              (try clear HO_27)
              (try clear HO_35)
              (try clear HO_208000)
              (try clear HO_208001)
              (try clear BK206)
              (try clear BK207)
              (try clear BK219)
              (try clear BK224)
              (try clear HB)
              (try clear HB2)
              generalize ((w30.setCell ⟨gb224, 0, none⟩ (.int .u32 ((rd_T42 t220 x37_2).f0))).setCell ⟨gb224, 1, none⟩ (.int .i64 ((rd_T42 t220 x37_2).f1))) = w43 at n0_ n1_ n2_ n3_ n4_ n5_ n6_ n7_ n8_ n9_ n9x_ ⊢
              have HO_7 := n0_
              have HO_27 := n1_
              have HO_35 := n2_
              have HO_208000 := n3_
              have HO_208001 := n4_
              have BK206 := n5_
              have BK207 := n6_
              have BK219 := n7_
              have BK224 := n8_
              have HB := n9_
              have HB2 := n9x_
              clear n0_ n1_ n2_ n3_ n4_ n5_ n6_ n7_ n8_ n9_ n9x_
              replace HO_7 := Aside0.mk (Kd.R_drew HO_7.out)
              replace HO_27 := Aside0.mk (Kd.N_drew HO_27.out)
              replace HO_35 := Aside0.mk (Kd.R_drew HO_35.out)
              replace HO_208000 := Aside0.mk (Kd.V_drew HO_208000.out)
              replace HO_208001 := Aside0.mk (Kd.V_drew HO_208001.out)
              replace BK206 := Aside0.mk (blk_drew BK206.out)
              replace BK207 := Aside0.mk (blk_drew BK207.out)
              replace BK219 := Aside0.mk (blk_drew BK219.out)
              replace BK224 := Aside0.mk (blk_drew BK224.out)
              replace HB := Aside0.mk (below_drew1 HB.out)
              replace HB2 := Aside0.mk (below_drew1 HB2.out)
              refine start_ (n := 12) (S := fun w' => True) (ds := []) #[false, false, false, false, false, false, false, false, false, false, false, false] (by kernel_rfl) rfl rfl trivial (fun hHeld => ?_); refine with_tabW maquettelaw13_LowerClasses.tab10 maquettelaw13_LowerClasses.bits10 (fun HT_ HW_ => ?_)
              generalize w43.drew = w44 at HO_7 HO_27 HO_35 HO_208000 HO_208001 BK206 BK207 BK219 BK224 HB HB2 hHeld ⊢
              refine pu HT_ 0 (some 42) (mk 12 1) ?_
              refine pu HT_ 1 (some 43) (mk 12 3) ?_
              refine pu HT_ 2 (some 44) (mk 12 7) ?_
              refine pun HT_ 3 (some 45) (mk 12 15) ?_
              refine pun HT_ 4 (some 46) (mk 12 31) ?_
              refine pun HT_ 5 (some 47) (mk 12 63) ?_
              refine pun HT_ 6 (some 48) (mk 12 127) ?_
              refine pun HT_ 7 (some 49) (mk 12 255) ?_
              refine pun HT_ 8 (some 50) (mk 12 511) ?_
              refine pun HT_ 9 (some 51) (mk 12 1023) ?_
              refine pun HT_ 10 (some 52) (mk 12 2047) ?_
              refine pu HT_ 11 (some 53) (mk 12 4095) ?_
              refine done_ (done_of HT_.out (by kernel_rfl)) ?_
              try go_wp2
              go_meet
              case rel => exact ⟨_, (false), (by first | rfl | (simp; done) | (simp [*]; done)), H', ⟨by have := HK1.out; have := HK2.out; first | omega | exact Nat.le_refl _⟩, ⟨by (with_reducible repeat (first | apply Kd.R_alloc | apply Kd.R_drewN | apply Kd.R_drew)); exact HO_7.out⟩, ⟨by (with_reducible repeat (first | apply Kd.N_alloc | apply Kd.N_drewN | apply Kd.N_drew)); exact HO_27.out⟩, ⟨by (with_reducible repeat (first | apply Kd.R_alloc | apply Kd.R_drewN | apply Kd.R_drew)); exact HO_35.out⟩, ⟨by (with_reducible repeat (first | apply Kd.V_alloc | apply Kd.V_drewN | apply Kd.V_drew)); exact HO_208000.out⟩, ⟨by (with_reducible repeat (first | apply Kd.V_alloc | apply Kd.V_drewN | apply Kd.V_drew)); exact HO_208001.out⟩, ⟨bkq BK206⟩, ⟨bkq BK207⟩, ⟨bkq BK219⟩, ⟨bkq BK224⟩, ⟨by repeat (first | (with_reducible first | exact HB.out | apply below_alloc | apply pw_below_drewN | apply below_drew1 | refine below_set ?_ GE206.out | refine below_set ?_ GE207.out | refine below_set ?_ GE219.out | refine below_set ?_ GE224.out) | exact HB.out)⟩, ⟨by repeat (first | (with_reducible first | exact HB2.out | exact Below.refl _ _ | apply below_alloc | apply pw_below_drewN | apply below_drew1 | refine below_set ?_ GE2_224.out) | exact HB2.out | exact Below.refl _ _)⟩⟩
            case rest =>
             clear HC29
             try clear c1
             try clear c2
             try clear p2 p2
             try clear q2 q2
             try clear hx2
             try clear c3
             try clear c4
             try clear c5
             try clear p6
             try clear c7
             try clear c8
             try clear c10
             try clear c14
             try clear c16
             try clear c16b0
             try clear c17
             try clear c17b0
             try clear c18
             try clear c18b0
             try clear c21
             try clear p21 p21
             try clear q21 q21
             try clear hx21
             try clear c22
             try clear p22
             try clear q22
             try clear hx22
             try clear c26
             try clear c26b0
             try clear c27
             try clear c27b0
             try clear c28
             try clear c28b0
             try clear c31
             try clear c32
             try clear c33
             try clear c35
             try clear c35b0
             try clear c37
             try clear c37b0
             try clear c38
             try clear c38b0
             try clear hcz23_0 hcz23_1 hfz23_0 hfz23_1
             try clear hcz34_0 hcz34_1 hfz34_0 hfz34_1
             try clear hx218_0
             try clear hx218_1
             try clear hx223_0
             try clear hx223_1
             try clear hx225_0
             try clear hx225_1
             try clear p218
             try clear p223
             try clear p225
             try clear q218
             try clear q223
             try clear q225
             obtain ⟨kq, x53_28, rfl, HA, HJ28, HO_7, HO_27, HO_35, HO_208000, HO_208001, BK206, BK207, BK219, BK224, HB, HB2⟩ := hcut
             cases kq with
             | zero => exact absurd HA.out (by simp [maquettelaw13_LowerClasses.j2])
             | succ kj28 =>
              have H := HA.out
              clear HA
              simp only [maquettelaw13_LowerClasses.j2] at H
              by_cases c45 : x53_28 = true
              ·subst c45
               have H1 : (some false) = some r := by rw [if_pos rfl] at H; exact H
               clear H
               have H := H1
               clear H1
               obtain rfl := Option.some.inj H
               go_wp2
               go_ret
               exact ⟨by first | rfl | (simp [errW_none, errW_some] <;> rfl) | (simp [*, errW_none, errW_some] <;> rfl), by repeat (first | (with_reducible first | exact HB.out | apply below_alloc | apply pw_below_drewN | apply below_drew1 | refine below_set ?_ GE206.out | refine below_set ?_ GE207.out | refine below_set ?_ GE219.out | refine below_set ?_ GE224.out) | exact HB.out)⟩
              ·replace c45 := Bool.eq_false_iff.mpr c45
               subst c45
               have H1 : (maquettelaw13_LowerClasses.l2 kj28 t220 false y215 (y215.length : Int) x29_1 t220 (t220.length : Int) x37_2 ((rd_T30 y215 x29_1).f1) (((rd_T30 y215 x29_1).f1).length : Int) 0 ((rd_T30 y215 x29_1).f0) ((rd_T30 y215 x29_1).f1) ((rd_T42 t220 x37_2).f0) ((rd_T42 t220 x37_2).f1)) = some r := by rw [if_neg (show ¬ (false = true) by decide)] at H; exact H
               clear H
               have H := H1
               clear H1
               have H' := Aside0.mk H
               clear H
               have hnb46 := NB219_206.out
               have hnc46 := NB206_219.out
               have hnb47 := NB219_207.out
               have hnc47 := NB207_219.out
               have hnb48 := NB219_224.out
               have hnc48 := NB224_219.out
               obtain ⟨hcz49_0, hcz49_1, hfz49_0, hfz49_1⟩ := bc2 BK219
               go_wp2
               go_loopg [10, 57] kj28 (fun kq v10 v57 w' => ∃ (x10_4 : Bool) (x57_4 : Int), v10 = .bool x10_4 ∧ v57 = .int .i64 x57_4 ∧ Aside0 (maquettelaw13_LowerClasses.l2 kq t220 x10_4 y215 (y215.length : Int) x29_1 t220 (t220.length : Int) x37_2 ((rd_T30 y215 x29_1).f1) (((rd_T30 y215 x29_1).f1).length : Int) x57_4 ((rd_T30 y215 x29_1).f0) ((rd_T30 y215 x29_1).f1) ((rd_T42 t220 x37_2).f0) ((rd_T42 t220 x37_2).f1) = some r) ∧ Aside0 (kq ≤ kj28) ∧ Aside0 (Kd.R k42 42 w' w.heap.size (fun k_ => (w.heap.size ≤ k_) ∧ k_ ≠ gb224) (.slice (some ad223) t220.length co25) t220) ∧ Aside0 (Kd.N k30 30 w' w.heap.size (fun k_ => ((P1_0_ k_ ∨ P1_1_ k_) ∨ w.heap.size ≤ k_) ∧ some k_ ≠ ((.slice (some ad223) t220.length co25) : Value).ownBlock ∧ some k_ ≠ ((.slice (some ad223) t220.length co25) : Value).ownBlock ∧ k_ ≠ gb206 ∧ k_ ≠ gb207 ∧ k_ ≠ gb219 ∧ k_ ≠ gb224) (.slice (some ad218) y215.length co15) y215) ∧ Aside0 (Kd.R k42 42 w' w.heap.size (fun k_ => (w.heap.size ≤ k_) ∧ k_ ≠ gb224) (.slice (some ad223) t220.length co25) t220) ∧ Aside0 (Kd.V k63 63 w' w.heap.size (fun k_ => ((P1_0_ k_ ∨ P1_1_ k_) ∨ w.heap.size ≤ k_) ∧ some k_ ≠ ((.slice (some ad223) t220.length co25) : Value).ownBlock ∧ some k_ ≠ ((.slice (some ad218) y215.length co15) : Value).ownBlock ∧ some k_ ≠ ((.slice (some ad223) t220.length co25) : Value).ownBlock ∧ k_ ≠ gb206 ∧ k_ ≠ gb207 ∧ k_ ≠ gb219 ∧ k_ ≠ gb224) (.slice A1_0 l1_0.length c1_0) l1_0) ∧ Aside0 (Kd.V k36 36 w' w.heap.size (fun k_ => ((P1_0_ k_ ∨ P1_1_ k_) ∨ w.heap.size ≤ k_) ∧ some k_ ≠ ((.slice (some ad223) t220.length co25) : Value).ownBlock ∧ some k_ ≠ ((.slice (some ad218) y215.length co15) : Value).ownBlock ∧ some k_ ≠ ((.slice (some ad223) t220.length co25) : Value).ownBlock ∧ k_ ≠ gb206 ∧ k_ ≠ gb207 ∧ k_ ≠ gb219 ∧ k_ ≠ gb224) (.slice A1_1 l1_1.length c1_1) l1_1) ∧ Aside0 (w'.heap[gb206]? = some (.cells #[.int .u8 a0_0, (.slice A0_1 l0_1.length c0_1), (.slice A0_2 l0_2.length c0_2), (.slice A0_3 l0_3.length c0_3), (.slice A0_4 l0_4.length c0_4), (.slice A0_5 l0_5.length c0_5)] 25 (0, 0))) ∧ Aside0 (w'.heap[gb207]? = some (.cells #[(.slice A1_0 l1_0.length c1_0), (.slice A1_1 l1_1.length c1_1)] 30 (0, 0))) ∧ Aside0 (w'.heap[gb219]? = some (.cells #[(.slice A218_0 ((rd_T30 y215 x29_1).f0).length c218_0), (.slice A218_1 ((rd_T30 y215 x29_1).f1).length c218_1)] 30 (0, 0))) ∧ Aside0 (w'.heap[gb224]? = some (.cells #[.int .u32 ((rd_T42 t220 x37_2).f0), .int .i64 ((rd_T42 t220 x37_2).f1)] 42 (0, 0))) ∧ Aside0 (Below w.heap.size w w') ∧ Aside0 (Below w24.heap.size w24 w'))
               case atStart => exact ⟨(false), (0), (by first | rfl | (simp; done) | (simp [*]; done)), (by first | rfl | (simp; done) | (simp [*]; done)), H', ⟨Nat.le_refl _⟩, ⟨by (with_reducible repeat (first | apply Kd.R_alloc | apply Kd.R_drewN | apply Kd.R_drew)); exact HO_7.out⟩, ⟨by (with_reducible repeat (first | apply Kd.N_alloc | apply Kd.N_drewN | apply Kd.N_drew)); exact HO_27.out⟩, ⟨by (with_reducible repeat (first | apply Kd.R_alloc | apply Kd.R_drewN | apply Kd.R_drew)); exact HO_35.out⟩, ⟨by (with_reducible repeat (first | apply Kd.V_alloc | apply Kd.V_drewN | apply Kd.V_drew)); exact HO_208000.out⟩, ⟨by (with_reducible repeat (first | apply Kd.V_alloc | apply Kd.V_drewN | apply Kd.V_drew)); exact HO_208001.out⟩, ⟨bkq BK206⟩, ⟨bkq BK207⟩, ⟨bkq BK219⟩, ⟨bkq BK224⟩, ⟨by repeat (first | (with_reducible first | exact HB.out | apply below_alloc | apply pw_below_drewN | apply below_drew1 | refine below_set ?_ GE206.out | refine below_set ?_ GE207.out | refine below_set ?_ GE219.out | refine below_set ?_ GE224.out) | exact HB.out)⟩, ⟨by repeat (first | (with_reducible first | exact HB2.out | exact Below.refl _ _ | apply below_alloc | apply pw_below_drewN | apply below_drew1 | refine below_set ?_ GE2_224.out) | exact HB2.out | exact Below.refl _ _)⟩⟩
               case round =>
                clear H'
                try clear c1
                try clear c2
                try clear p2 p2
                try clear q2 q2
                try clear hx2
                try clear c3
                try clear c4
                try clear c5
                try clear p6 p6
                try clear c7
                try clear c8
                try clear c10
                try clear c14
                try clear c16
                try clear c16b0
                try clear c17
                try clear c17b0
                try clear c18
                try clear c18b0
                try clear c21
                try clear p21 p21
                try clear q21 q21
                try clear hx21
                try clear c22
                try clear p22 p22
                try clear q22 q22
                try clear hx22
                try clear c26
                try clear c26b0
                try clear c27
                try clear c27b0
                try clear c28
                try clear c28b0
                try clear c31
                try clear c32
                try clear c33
                try clear c35
                try clear c35b0
                try clear c37
                try clear c37b0
                try clear c38
                try clear c38b0
                try clear c45
                try clear c46
                try clear c47
                try clear c48
                try clear hcz23_0 hcz23_1 hfz23_0 hfz23_1
                try clear hcz34_0 hcz34_1 hfz34_0 hfz34_1
                try clear hcz49_0 hcz49_1 hfz49_0 hfz49_1
                try clear hx218_0
                try clear hx218_1
                try clear hx223_0
                try clear hx223_1
                try clear hx225_0
                try clear hx225_1
                try clear p218
                try clear p223
                try clear p225
                try clear q218
                try clear q223
                try clear q225
                obtain ⟨x10_4, x57_4, rfl, rfl, HA, HK4, HO_7, HO_27, HO_35, HO_208000, HO_208001, BK206, BK207, BK219, BK224, HB, HB2⟩ := hrel
                cases gk with
                | zero => exact absurd HA.out (by simp [maquettelaw13_LowerClasses.l2])
                | succ k4 =>
                 have H := HA.out
                 clear HA
                 simp only [maquettelaw13_LowerClasses.l2] at H
                 by_cases c50 : x57_4 < (((rd_T30 y215 x29_1).f1).length : Int)
                 ·rw [if_pos c50] at H
                  have c50b0 := decide_eq_true c50
                  clear c50
                  by_cases c51 : 0 ≤ x57_4
                  ·rw [if_pos c51] at H
                   have c51b0 := decide_eq_true c51
                   clear c51
                   by_cases c52 : x57_4 < (((rd_T30 y215 x29_1).f1).length : Int)
                   ·rw [if_pos c52] at H
                    have c52b0 := decide_eq_true c52
                    clear c52
                    have H' := Aside0.mk H
                    clear H
                    have p227 : 0 ≤ (x57_4 : Int) := of_decide_eq_true (by first | (with_reducible assumption) | assumption)
                    have q227 : x57_4 < (((rd_T30 y215 x29_1).f1).length : Int) := of_decide_eq_true (by first | (with_reducible assumption) | assumption)
                    obtain ⟨ad227, A227_1, c227_1, A227_2, c227_2, A227_3, c227_3, e227, hx227_0, hx227_1, hx227_2, hx227_3, hx227_4, hl227_1, hi227_1, hl227_2, hi227_2, hl227_3, hi227_3⟩ := at_T36 HR218_1.out x57_4 p227 q227
                    cases e227
                    replace hx227_0 := (HB2.out.cell (World.block_lt_of_cell? w24 _ hx227_0)).trans hx227_0
                    replace hx227_1 := (HB2.out.cell (World.block_lt_of_cell? w24 _ hx227_1)).trans hx227_1
                    replace hx227_2 := (HB2.out.cell (World.block_lt_of_cell? w24 _ hx227_2)).trans hx227_2
                    replace hx227_3 := (HB2.out.cell (World.block_lt_of_cell? w24 _ hx227_3)).trans hx227_3
                    replace hx227_4 := (HB2.out.cell (World.block_lt_of_cell? w24 _ hx227_4)).trans hx227_4
                    have HR227_1 := Aside0.mk hi227_1
                    have HC227_1 := Aside0.mk hl227_1
                    clear hi227_1 hl227_1
                    have HR227_2 := Aside0.mk hi227_2
                    have HC227_2 := Aside0.mk hl227_2
                    clear hi227_2 hl227_2
                    have HR227_3 := Aside0.mk hi227_3
                    have HC227_3 := Aside0.mk hl227_3
                    clear hi227_3 hl227_3
                    replace p227 := eq_true p227
                    replace q227 := eq_true q227
                    go_wp2_with (first | ((with_reducible refine gate_dst (N := 12) rfl ?_); refine bx 12 (cs := #[.string (⟨#[]⟩ : ByteArray), .slice none 0 0, .slice none 0 0, .slice none 0 0, .int .i64 0]) (t := 36) (h := ?_); intro gb228 hg w53 hbox hb; have BK228 := Aside0.mk hbox; have GW228 : Aside0 (w.heap.size ≤ gb228) := bge hg; have GE228 : Aside0 (w.heap.size ≤ gb228) := bge hg; have GE2_228 : Aside0 (w24.heap.size ≤ gb228) := ⟨by have h2_ := HB2.out.size; have h3_ := hg; omega⟩; have NB206_228 := bne BK206 hg; have NB228_206 := bnf BK206 hg; have NB207_228 := bne BK207 hg; have NB228_207 := bnf BK207 hg; have NB219_228 := bne BK219 hg; have NB228_219 := bnf BK219 hg; have NB224_228 := bne BK224 hg; have NB228_224 := bnf BK224 hg; replace HO_7 := Aside0.mk (Kd.R_below (kR HO_7) hb); replace HO_27 := Aside0.mk (Kd.N_below (Kd.N_elderB (kN HO_27) gb228 (Nat.le_of_eq hg.symm)) hb); replace HO_35 := Aside0.mk (Kd.R_below (kR HO_35) hb); replace HO_208000 := Aside0.mk (Kd.V_below (Kd.V_elderB (kV HO_208000) gb228 (Nat.le_of_eq hg.symm)) hb); replace HO_208001 := Aside0.mk (Kd.V_below (Kd.V_elderB (kV HO_208001) gb228 (Nat.le_of_eq hg.symm)) hb); replace BK206 := bkb BK206 hb; replace BK207 := bkb BK207 hb; replace BK219 := bkb BK219 hb; replace BK224 := bkb BK224 hb; replace HB := bst hb; replace HB2 := Aside0.mk (b2t HB2.out hb); clear hb hbox hg; have hnb54 := NB228_206.out; have hnc54 := NB206_228.out; have hnb55 := NB228_207.out; have hnc55 := NB207_228.out; have hnb56 := NB228_219.out; have hnc56 := NB219_228.out; have hnb57 := NB228_224.out; have hnc57 := NB224_228.out; obtain ⟨hcz58_0, hcz58_1, hcz58_2, hcz58_3, hcz58_4, hfz58_0, hfz58_1, hfz58_2, hfz58_3, hfz58_4⟩ := bc5 BK228))
                    go_loopg [10, 64] k4 (fun kq v10 v64 w' => ∃ (x10_5 : Bool) (x64_5 : Int), v10 = .bool x10_5 ∧ v64 = .int .i64 x64_5 ∧ Aside0 (maquettelaw13_LowerClasses.l3 kq t220 x10_5 y215 (y215.length : Int) x29_1 t220 (t220.length : Int) x37_2 ((rd_T30 y215 x29_1).f1) (((rd_T30 y215 x29_1).f1).length : Int) x57_4 ((rd_T36 ((rd_T30 y215 x29_1).f1) x57_4).f1) (((rd_T36 ((rd_T30 y215 x29_1).f1) x57_4).f1).length : Int) x64_5 ((rd_T30 y215 x29_1).f0) ((rd_T30 y215 x29_1).f1) ((rd_T42 t220 x37_2).f0) ((rd_T42 t220 x37_2).f1) = some r) ∧ Aside0 (kq ≤ k4) ∧ Aside0 (Kd.R k42 42 w' w.heap.size (fun k_ => (w.heap.size ≤ k_) ∧ k_ ≠ gb224) (.slice (some ad223) t220.length co25) t220) ∧ Aside0 (Kd.N k30 30 w' w.heap.size (fun k_ => ((P1_0_ k_ ∨ P1_1_ k_) ∨ w.heap.size ≤ k_) ∧ some k_ ≠ ((.slice (some ad223) t220.length co25) : Value).ownBlock ∧ some k_ ≠ ((.slice (some ad223) t220.length co25) : Value).ownBlock ∧ k_ ≠ gb206 ∧ k_ ≠ gb207 ∧ k_ ≠ gb219 ∧ k_ ≠ gb224 ∧ k_ ≠ gb228) (.slice (some ad218) y215.length co15) y215) ∧ Aside0 (Kd.R k42 42 w' w.heap.size (fun k_ => (w.heap.size ≤ k_) ∧ k_ ≠ gb224) (.slice (some ad223) t220.length co25) t220) ∧ Aside0 (Kd.V k63 63 w' w.heap.size (fun k_ => ((P1_0_ k_ ∨ P1_1_ k_) ∨ w.heap.size ≤ k_) ∧ some k_ ≠ ((.slice (some ad223) t220.length co25) : Value).ownBlock ∧ some k_ ≠ ((.slice (some ad218) y215.length co15) : Value).ownBlock ∧ some k_ ≠ ((.slice (some ad223) t220.length co25) : Value).ownBlock ∧ k_ ≠ gb206 ∧ k_ ≠ gb207 ∧ k_ ≠ gb219 ∧ k_ ≠ gb224 ∧ k_ ≠ gb228) (.slice A1_0 l1_0.length c1_0) l1_0) ∧ Aside0 (Kd.V k36 36 w' w.heap.size (fun k_ => ((P1_0_ k_ ∨ P1_1_ k_) ∨ w.heap.size ≤ k_) ∧ some k_ ≠ ((.slice (some ad223) t220.length co25) : Value).ownBlock ∧ some k_ ≠ ((.slice (some ad218) y215.length co15) : Value).ownBlock ∧ some k_ ≠ ((.slice (some ad223) t220.length co25) : Value).ownBlock ∧ k_ ≠ gb206 ∧ k_ ≠ gb207 ∧ k_ ≠ gb219 ∧ k_ ≠ gb224 ∧ k_ ≠ gb228) (.slice A1_1 l1_1.length c1_1) l1_1) ∧ Aside0 (w'.heap[gb206]? = some (.cells #[.int .u8 a0_0, (.slice A0_1 l0_1.length c0_1), (.slice A0_2 l0_2.length c0_2), (.slice A0_3 l0_3.length c0_3), (.slice A0_4 l0_4.length c0_4), (.slice A0_5 l0_5.length c0_5)] 25 (0, 0))) ∧ Aside0 (w'.heap[gb207]? = some (.cells #[(.slice A1_0 l1_0.length c1_0), (.slice A1_1 l1_1.length c1_1)] 30 (0, 0))) ∧ Aside0 (w'.heap[gb219]? = some (.cells #[(.slice A218_0 ((rd_T30 y215 x29_1).f0).length c218_0), (.slice (some ad227) ((rd_T30 y215 x29_1).f1).length c218_1)] 30 (0, 0))) ∧ Aside0 (w'.heap[gb224]? = some (.cells #[.int .u32 ((rd_T42 t220 x37_2).f0), .int .i64 ((rd_T42 t220 x37_2).f1)] 42 (0, 0))) ∧ Aside0 (w'.heap[gb228]? = some (.cells #[.string ((rd_T36 ((rd_T30 y215 x29_1).f1) x57_4).f0), (.slice A227_1 ((rd_T36 ((rd_T30 y215 x29_1).f1) x57_4).f1).length c227_1), (.slice A227_2 ((rd_T36 ((rd_T30 y215 x29_1).f1) x57_4).f2).length c227_2), (.slice A227_3 ((rd_T36 ((rd_T30 y215 x29_1).f1) x57_4).f3).length c227_3), .int .i64 ((rd_T36 ((rd_T30 y215 x29_1).f1) x57_4).f4)] 36 (0, 0))) ∧ Aside0 (Below w.heap.size w w') ∧ Aside0 (Below w24.heap.size w24 w'))
                    case atStart => exact ⟨(x10_4), (0), (by first | rfl | (simp; done) | (simp [*]; done)), (by first | rfl | (simp; done) | (simp [*]; done)), H', ⟨Nat.le_refl _⟩, ⟨by (with_reducible repeat (first | apply Kd.R_alloc | apply Kd.R_drewN | apply Kd.R_drew)); exact Kd.R_mono (Kd.R_far (p := ⟨gb228, 4, none⟩) (Kd.R_far (p := ⟨gb228, 3, none⟩) (Kd.R_far (p := ⟨gb228, 2, none⟩) (Kd.R_far (p := ⟨gb228, 1, none⟩) (Kd.R_far (p := ⟨gb228, 0, none⟩) (Kd.R_types HO_7.out BK228.out (by decide)) (fun _ hk => hk.2) (.string ((rd_T36 ((rd_T30 y215 x29_1).f1) x57_4).f0))) (fun _ hk => hk.2) (.slice A227_1 ((rd_T36 ((rd_T30 y215 x29_1).f1) x57_4).f1).length c227_1)) (fun _ hk => hk.2) (.slice A227_2 ((rd_T36 ((rd_T30 y215 x29_1).f1) x57_4).f2).length c227_2)) (fun _ hk => hk.2) (.slice A227_3 ((rd_T36 ((rd_T30 y215 x29_1).f1) x57_4).f3).length c227_3)) (fun _ hk => hk.2) (.int .i64 ((rd_T36 ((rd_T30 y215 x29_1).f1) x57_4).f4))) (fun _ hk => ⟨hk.1.1, hk.1.2⟩)⟩, ⟨by (with_reducible repeat (first | apply Kd.N_alloc | apply Kd.N_drewN | apply Kd.N_drew)); exact Kd.N_mono (Kd.N_far (p := ⟨gb228, 4, none⟩) (Kd.N_far (p := ⟨gb228, 3, none⟩) (Kd.N_far (p := ⟨gb228, 2, none⟩) (Kd.N_far (p := ⟨gb228, 1, none⟩) (Kd.N_far (p := ⟨gb228, 0, none⟩) (Kd.N_mono HO_27.out (fun k_ hk => (⟨hk, hk.2⟩ : _ ∧ k_ ≠ gb228))) (fun _ hk => hk.2) (.string ((rd_T36 ((rd_T30 y215 x29_1).f1) x57_4).f0))) (fun _ hk => hk.2) (.slice A227_1 ((rd_T36 ((rd_T30 y215 x29_1).f1) x57_4).f1).length c227_1)) (fun _ hk => hk.2) (.slice A227_2 ((rd_T36 ((rd_T30 y215 x29_1).f1) x57_4).f2).length c227_2)) (fun _ hk => hk.2) (.slice A227_3 ((rd_T36 ((rd_T30 y215 x29_1).f1) x57_4).f3).length c227_3)) (fun _ hk => hk.2) (.int .i64 ((rd_T36 ((rd_T30 y215 x29_1).f1) x57_4).f4))) (fun _ hk => ⟨hk.1.1.1, ⟨hk.1.1.2.1, ⟨hk.1.1.2.2.1, ⟨hk.1.1.2.2.2.1, ⟨hk.1.1.2.2.2.2.1, ⟨hk.1.1.2.2.2.2.2.1, ⟨hk.1.1.2.2.2.2.2.2, hk.1.2⟩⟩⟩⟩⟩⟩⟩)⟩, ⟨by (with_reducible repeat (first | apply Kd.R_alloc | apply Kd.R_drewN | apply Kd.R_drew)); exact Kd.R_mono (Kd.R_far (p := ⟨gb228, 4, none⟩) (Kd.R_far (p := ⟨gb228, 3, none⟩) (Kd.R_far (p := ⟨gb228, 2, none⟩) (Kd.R_far (p := ⟨gb228, 1, none⟩) (Kd.R_far (p := ⟨gb228, 0, none⟩) (Kd.R_types HO_35.out BK228.out (by decide)) (fun _ hk => hk.2) (.string ((rd_T36 ((rd_T30 y215 x29_1).f1) x57_4).f0))) (fun _ hk => hk.2) (.slice A227_1 ((rd_T36 ((rd_T30 y215 x29_1).f1) x57_4).f1).length c227_1)) (fun _ hk => hk.2) (.slice A227_2 ((rd_T36 ((rd_T30 y215 x29_1).f1) x57_4).f2).length c227_2)) (fun _ hk => hk.2) (.slice A227_3 ((rd_T36 ((rd_T30 y215 x29_1).f1) x57_4).f3).length c227_3)) (fun _ hk => hk.2) (.int .i64 ((rd_T36 ((rd_T30 y215 x29_1).f1) x57_4).f4))) (fun _ hk => ⟨hk.1.1, hk.1.2⟩)⟩, ⟨by (with_reducible repeat (first | apply Kd.V_alloc | apply Kd.V_drewN | apply Kd.V_drew)); exact Kd.V_mono (Kd.V_far (p := ⟨gb228, 4, none⟩) (Kd.V_far (p := ⟨gb228, 3, none⟩) (Kd.V_far (p := ⟨gb228, 2, none⟩) (Kd.V_far (p := ⟨gb228, 1, none⟩) (Kd.V_far (p := ⟨gb228, 0, none⟩) (Kd.V_mono HO_208000.out (fun k_ hk => (⟨hk, hk.2⟩ : _ ∧ k_ ≠ gb228))) (fun _ hk => hk.2) (.string ((rd_T36 ((rd_T30 y215 x29_1).f1) x57_4).f0))) (fun _ hk => hk.2) (.slice A227_1 ((rd_T36 ((rd_T30 y215 x29_1).f1) x57_4).f1).length c227_1)) (fun _ hk => hk.2) (.slice A227_2 ((rd_T36 ((rd_T30 y215 x29_1).f1) x57_4).f2).length c227_2)) (fun _ hk => hk.2) (.slice A227_3 ((rd_T36 ((rd_T30 y215 x29_1).f1) x57_4).f3).length c227_3)) (fun _ hk => hk.2) (.int .i64 ((rd_T36 ((rd_T30 y215 x29_1).f1) x57_4).f4))) (fun _ hk => ⟨hk.1.1.1, ⟨hk.1.1.2.1, ⟨hk.1.1.2.2.1, ⟨hk.1.1.2.2.2.1, ⟨hk.1.1.2.2.2.2.1, ⟨hk.1.1.2.2.2.2.2.1, ⟨hk.1.1.2.2.2.2.2.2.1, ⟨hk.1.1.2.2.2.2.2.2.2, hk.1.2⟩⟩⟩⟩⟩⟩⟩⟩)⟩, ⟨by (with_reducible repeat (first | apply Kd.V_alloc | apply Kd.V_drewN | apply Kd.V_drew)); exact Kd.V_mono (Kd.V_far (p := ⟨gb228, 4, none⟩) (Kd.V_far (p := ⟨gb228, 3, none⟩) (Kd.V_far (p := ⟨gb228, 2, none⟩) (Kd.V_far (p := ⟨gb228, 1, none⟩) (Kd.V_far (p := ⟨gb228, 0, none⟩) (Kd.V_mono HO_208001.out (fun k_ hk => (⟨hk, hk.2⟩ : _ ∧ k_ ≠ gb228))) (fun _ hk => hk.2) (.string ((rd_T36 ((rd_T30 y215 x29_1).f1) x57_4).f0))) (fun _ hk => hk.2) (.slice A227_1 ((rd_T36 ((rd_T30 y215 x29_1).f1) x57_4).f1).length c227_1)) (fun _ hk => hk.2) (.slice A227_2 ((rd_T36 ((rd_T30 y215 x29_1).f1) x57_4).f2).length c227_2)) (fun _ hk => hk.2) (.slice A227_3 ((rd_T36 ((rd_T30 y215 x29_1).f1) x57_4).f3).length c227_3)) (fun _ hk => hk.2) (.int .i64 ((rd_T36 ((rd_T30 y215 x29_1).f1) x57_4).f4))) (fun _ hk => ⟨hk.1.1.1, ⟨hk.1.1.2.1, ⟨hk.1.1.2.2.1, ⟨hk.1.1.2.2.2.1, ⟨hk.1.1.2.2.2.2.1, ⟨hk.1.1.2.2.2.2.2.1, ⟨hk.1.1.2.2.2.2.2.2.1, ⟨hk.1.1.2.2.2.2.2.2.2, hk.1.2⟩⟩⟩⟩⟩⟩⟩⟩)⟩, ⟨bkq BK206⟩, ⟨bkq BK207⟩, ⟨bkq BK219⟩, ⟨bkq BK224⟩, ⟨bkp BK228⟩, ⟨by repeat (first | (with_reducible first | exact HB.out | apply below_alloc | apply pw_below_drewN | apply below_drew1 | refine below_set ?_ GE206.out | refine below_set ?_ GE207.out | refine below_set ?_ GE219.out | refine below_set ?_ GE224.out | refine below_set ?_ GE228.out) | exact HB.out)⟩, ⟨by repeat (first | (with_reducible first | exact HB2.out | exact Below.refl _ _ | apply below_alloc | apply pw_below_drewN | apply below_drew1 | refine below_set ?_ GE2_224.out | refine below_set ?_ GE2_228.out) | exact HB2.out | exact Below.refl _ _)⟩⟩
                    case round =>
                     clear H'
                     try clear c1
                     try clear c2
                     try clear p2 p2
                     try clear q2 q2
                     try clear hx2
                     try clear c3
                     try clear c4
                     try clear c5
                     try clear p6 p6
                     try clear c7
                     try clear c8
                     try clear c10
                     try clear c14
                     try clear c16
                     try clear c16b0
                     try clear c17
                     try clear c17b0
                     try clear c18
                     try clear c18b0
                     try clear c21
                     try clear p21 p21
                     try clear q21 q21
                     try clear hx21
                     try clear c22
                     try clear p22 p22
                     try clear q22 q22
                     try clear hx22
                     try clear c26
                     try clear c26b0
                     try clear c27
                     try clear c27b0
                     try clear c28
                     try clear c28b0
                     try clear c31
                     try clear c32
                     try clear c33
                     try clear c35
                     try clear c35b0
                     try clear c37
                     try clear c37b0
                     try clear c38
                     try clear c38b0
                     try clear c45
                     try clear c46
                     try clear c47
                     try clear c48
                     try clear c50
                     try clear c50b0
                     try clear c51
                     try clear c51b0
                     try clear c52
                     try clear c52b0
                     try clear c54
                     try clear c55
                     try clear c56
                     try clear c57
                     try clear hcz23_0 hcz23_1 hfz23_0 hfz23_1
                     try clear hcz34_0 hcz34_1 hfz34_0 hfz34_1
                     try clear hcz49_0 hcz49_1 hfz49_0 hfz49_1
                     try clear hcz58_0 hcz58_1 hcz58_2 hcz58_3 hcz58_4 hfz58_0 hfz58_1 hfz58_2 hfz58_3 hfz58_4
                     try clear hx218_0
                     try clear hx218_1
                     try clear hx223_0
                     try clear hx223_1
                     try clear hx225_0
                     try clear hx225_1
                     try clear hx227_0
                     try clear hx227_1
                     try clear hx227_2
                     try clear hx227_3
                     try clear hx227_4
                     try clear p218
                     try clear p223
                     try clear p225
                     try clear p227
                     try clear q218
                     try clear q223
                     try clear q225
                     try clear q227
                     obtain ⟨x10_5, x64_5, rfl, rfl, HA, HK5, HO_7, HO_27, HO_35, HO_208000, HO_208001, BK206, BK207, BK219, BK224, BK228, HB, HB2⟩ := hrel
                     cases gk with
                     | zero => exact absurd HA.out (by simp [maquettelaw13_LowerClasses.l3])
                     | succ k5 =>
                      have H := HA.out
                      clear HA
                      simp only [maquettelaw13_LowerClasses.l3] at H
                      by_cases c59 : x64_5 < (((rd_T36 ((rd_T30 y215 x29_1).f1) x57_4).f1).length : Int)
                      ·rw [if_pos c59] at H
                       have c59b0 := decide_eq_true c59
                       clear c59
                       by_cases c60 : 0 ≤ x64_5
                       ·rw [if_pos c60] at H
                        have c60b0 := decide_eq_true c60
                        clear c60
                        by_cases c61 : x64_5 < (((rd_T36 ((rd_T30 y215 x29_1).f1) x57_4).f1).length : Int)
                        ·rw [if_pos c61] at H
                         have c61b0 := decide_eq_true c61
                         clear c61
                         by_cases c62 : x10_5 = true
                         ·subst c62
                          have H1 : (maquettelaw13_LowerClasses.l3 k5 t220 true y215 (y215.length : Int) x29_1 t220 (t220.length : Int) x37_2 ((rd_T30 y215 x29_1).f1) (((rd_T30 y215 x29_1).f1).length : Int) x57_4 ((rd_T36 ((rd_T30 y215 x29_1).f1) x57_4).f1) (((rd_T36 ((rd_T30 y215 x29_1).f1) x57_4).f1).length : Int) (wrap64 (x64_5 + 1)) ((rd_T30 y215 x29_1).f0) ((rd_T30 y215 x29_1).f1) ((rd_T42 t220 x37_2).f0) ((rd_T42 t220 x37_2).f1)) = some r := by rw [if_pos rfl] at H; exact H
                          clear H
                          have H := H1
                          clear H1
                          have H' := Aside0.mk H
                          clear H
                          have p229 : 0 ≤ (x64_5 : Int) := of_decide_eq_true (by first | (with_reducible assumption) | assumption)
                          have q229 : x64_5 < (((rd_T36 ((rd_T30 y215 x29_1).f1) x57_4).f1).length : Int) := of_decide_eq_true (by first | (with_reducible assumption) | assumption)
                          obtain ⟨ad229, e229, hx229_0, hx229_1⟩ := at_T42 HR227_1.out x64_5 p229 q229
                          cases e229
                          replace hx229_0 := (HB2.out.cell (World.block_lt_of_cell? w24 _ hx229_0)).trans hx229_0
                          replace hx229_1 := (HB2.out.cell (World.block_lt_of_cell? w24 _ hx229_1)).trans hx229_1
                          replace p229 := eq_true p229
                          replace q229 := eq_true q229
                          go_wp2_with (first | ((with_reducible refine gate_dst (N := 14) rfl ?_); refine bx 14 (cs := #[.int .u32 0, .int .i64 0]) (t := 42) (h := ?_); intro gb230 hg w63 hbox hb; have BK230 := Aside0.mk hbox; have GW230 : Aside0 (w.heap.size ≤ gb230) := bge hg; have GE230 : Aside0 (w.heap.size ≤ gb230) := bge hg; have GE2_230 : Aside0 (w24.heap.size ≤ gb230) := ⟨by have h2_ := HB2.out.size; have h3_ := hg; omega⟩; have NB206_230 := bne BK206 hg; have NB230_206 := bnf BK206 hg; have NB207_230 := bne BK207 hg; have NB230_207 := bnf BK207 hg; have NB219_230 := bne BK219 hg; have NB230_219 := bnf BK219 hg; have NB224_230 := bne BK224 hg; have NB230_224 := bnf BK224 hg; have NB228_230 := bne BK228 hg; have NB230_228 := bnf BK228 hg; replace HO_7 := Aside0.mk (Kd.R_below (Kd.R_elderB (kR HO_7) gb230 (Nat.le_of_eq hg.symm)) hb); replace HO_27 := Aside0.mk (Kd.N_below (Kd.N_elderB (kN HO_27) gb230 (Nat.le_of_eq hg.symm)) hb); replace HO_35 := Aside0.mk (Kd.R_below (Kd.R_elderB (kR HO_35) gb230 (Nat.le_of_eq hg.symm)) hb); replace HO_208000 := Aside0.mk (Kd.V_below (Kd.V_elderB (kV HO_208000) gb230 (Nat.le_of_eq hg.symm)) hb); replace HO_208001 := Aside0.mk (Kd.V_below (Kd.V_elderB (kV HO_208001) gb230 (Nat.le_of_eq hg.symm)) hb); replace BK206 := bkb BK206 hb; replace BK207 := bkb BK207 hb; replace BK219 := bkb BK219 hb; replace BK224 := bkb BK224 hb; replace BK228 := bkb BK228 hb; replace HB := bst hb; replace HB2 := Aside0.mk (b2t HB2.out hb); clear hb hbox hg; have hnb64 := NB230_206.out; have hnc64 := NB206_230.out; have hnb65 := NB230_207.out; have hnc65 := NB207_230.out; have hnb66 := NB230_219.out; have hnc66 := NB219_230.out; have hnb67 := NB230_224.out; have hnc67 := NB224_230.out; have hnb68 := NB230_228.out; have hnc68 := NB228_230.out; obtain ⟨hcz69_0, hcz69_1, hfz69_0, hfz69_1⟩ := bc2 BK230))
                          go_roundg k5
                          case measure => have := HK1.out; have := HK2.out; have := HJ28.out; have := HK4.out; have := HK5.out; omega
                          case rel => exact ⟨(true), (wrap64 (x64_5 + 1)), (by first | rfl | (simp; done) | (simp [*]; done)), (by first | rfl | (simp; done) | (simp [*]; done)), H', ⟨by have := HK1.out; have := HK2.out; have := HJ28.out; have := HK4.out; have := HK5.out; omega⟩, ⟨by (with_reducible repeat (first | apply Kd.R_alloc | apply Kd.R_drewN | apply Kd.R_drew)); exact Kd.R_mono (Kd.R_far (p := ⟨gb230, 1, none⟩) (Kd.R_far (p := ⟨gb230, 0, none⟩) (Kd.R_mono HO_7.out (fun k_ hk => (⟨hk, hk.2⟩ : _ ∧ k_ ≠ gb230))) (fun _ hk => hk.2) (.int .u32 ((rd_T42 ((rd_T36 ((rd_T30 y215 x29_1).f1) x57_4).f1) x64_5).f0))) (fun _ hk => hk.2) (.int .i64 ((rd_T42 ((rd_T36 ((rd_T30 y215 x29_1).f1) x57_4).f1) x64_5).f1))) (fun _ hk => ⟨hk.1.1.1, hk.1.1.2⟩)⟩, ⟨by (with_reducible repeat (first | apply Kd.N_alloc | apply Kd.N_drewN | apply Kd.N_drew)); exact Kd.N_mono (Kd.N_far (p := ⟨gb230, 1, none⟩) (Kd.N_far (p := ⟨gb230, 0, none⟩) (Kd.N_mono HO_27.out (fun k_ hk => (⟨hk, hk.2⟩ : _ ∧ k_ ≠ gb230))) (fun _ hk => hk.2) (.int .u32 ((rd_T42 ((rd_T36 ((rd_T30 y215 x29_1).f1) x57_4).f1) x64_5).f0))) (fun _ hk => hk.2) (.int .i64 ((rd_T42 ((rd_T36 ((rd_T30 y215 x29_1).f1) x57_4).f1) x64_5).f1))) (fun _ hk => ⟨hk.1.1.1, ⟨hk.1.1.2.1, ⟨hk.1.1.2.2.1, ⟨hk.1.1.2.2.2.1, ⟨hk.1.1.2.2.2.2.1, ⟨hk.1.1.2.2.2.2.2.1, ⟨hk.1.1.2.2.2.2.2.2.1, hk.1.1.2.2.2.2.2.2.2⟩⟩⟩⟩⟩⟩⟩)⟩, ⟨by (with_reducible repeat (first | apply Kd.R_alloc | apply Kd.R_drewN | apply Kd.R_drew)); exact Kd.R_mono (Kd.R_far (p := ⟨gb230, 1, none⟩) (Kd.R_far (p := ⟨gb230, 0, none⟩) (Kd.R_mono HO_35.out (fun k_ hk => (⟨hk, hk.2⟩ : _ ∧ k_ ≠ gb230))) (fun _ hk => hk.2) (.int .u32 ((rd_T42 ((rd_T36 ((rd_T30 y215 x29_1).f1) x57_4).f1) x64_5).f0))) (fun _ hk => hk.2) (.int .i64 ((rd_T42 ((rd_T36 ((rd_T30 y215 x29_1).f1) x57_4).f1) x64_5).f1))) (fun _ hk => ⟨hk.1.1.1, hk.1.1.2⟩)⟩, ⟨by (with_reducible repeat (first | apply Kd.V_alloc | apply Kd.V_drewN | apply Kd.V_drew)); exact Kd.V_mono (Kd.V_far (p := ⟨gb230, 1, none⟩) (Kd.V_far (p := ⟨gb230, 0, none⟩) (Kd.V_mono HO_208000.out (fun k_ hk => (⟨hk, hk.2⟩ : _ ∧ k_ ≠ gb230))) (fun _ hk => hk.2) (.int .u32 ((rd_T42 ((rd_T36 ((rd_T30 y215 x29_1).f1) x57_4).f1) x64_5).f0))) (fun _ hk => hk.2) (.int .i64 ((rd_T42 ((rd_T36 ((rd_T30 y215 x29_1).f1) x57_4).f1) x64_5).f1))) (fun _ hk => ⟨hk.1.1.1, ⟨hk.1.1.2.1, ⟨hk.1.1.2.2.1, ⟨hk.1.1.2.2.2.1, ⟨hk.1.1.2.2.2.2.1, ⟨hk.1.1.2.2.2.2.2.1, ⟨hk.1.1.2.2.2.2.2.2.1, ⟨hk.1.1.2.2.2.2.2.2.2.1, hk.1.1.2.2.2.2.2.2.2.2⟩⟩⟩⟩⟩⟩⟩⟩)⟩, ⟨by (with_reducible repeat (first | apply Kd.V_alloc | apply Kd.V_drewN | apply Kd.V_drew)); exact Kd.V_mono (Kd.V_far (p := ⟨gb230, 1, none⟩) (Kd.V_far (p := ⟨gb230, 0, none⟩) (Kd.V_mono HO_208001.out (fun k_ hk => (⟨hk, hk.2⟩ : _ ∧ k_ ≠ gb230))) (fun _ hk => hk.2) (.int .u32 ((rd_T42 ((rd_T36 ((rd_T30 y215 x29_1).f1) x57_4).f1) x64_5).f0))) (fun _ hk => hk.2) (.int .i64 ((rd_T42 ((rd_T36 ((rd_T30 y215 x29_1).f1) x57_4).f1) x64_5).f1))) (fun _ hk => ⟨hk.1.1.1, ⟨hk.1.1.2.1, ⟨hk.1.1.2.2.1, ⟨hk.1.1.2.2.2.1, ⟨hk.1.1.2.2.2.2.1, ⟨hk.1.1.2.2.2.2.2.1, ⟨hk.1.1.2.2.2.2.2.2.1, ⟨hk.1.1.2.2.2.2.2.2.2.1, hk.1.1.2.2.2.2.2.2.2.2⟩⟩⟩⟩⟩⟩⟩⟩)⟩, ⟨bkq BK206⟩, ⟨bkq BK207⟩, ⟨bkq BK219⟩, ⟨bkq BK224⟩, ⟨bkq BK228⟩, ⟨by repeat (first | (with_reducible first | exact HB.out | apply below_alloc | apply pw_below_drewN | apply below_drew1 | refine below_set ?_ GE206.out | refine below_set ?_ GE207.out | refine below_set ?_ GE219.out | refine below_set ?_ GE224.out | refine below_set ?_ GE228.out | refine below_set ?_ GE230.out) | exact HB.out)⟩, ⟨by repeat (first | (with_reducible first | exact HB2.out | exact Below.refl _ _ | apply below_alloc | apply pw_below_drewN | apply below_drew1 | refine below_set ?_ GE2_224.out | refine below_set ?_ GE2_228.out | refine below_set ?_ GE2_230.out) | exact HB2.out | exact Below.refl _ _)⟩⟩
                         ·replace c62 := Bool.eq_false_iff.mpr c62
                          subst c62
                          have H1 : (maquettelaw13_LowerClasses.l3 k5 t220 (((rd_T42 t220 x37_2).f0) == ((rd_T42 ((rd_T36 ((rd_T30 y215 x29_1).f1) x57_4).f1) x64_5).f0) && (((rd_T42 t220 x37_2).f1) == ((rd_T42 ((rd_T36 ((rd_T30 y215 x29_1).f1) x57_4).f1) x64_5).f1))) y215 (y215.length : Int) x29_1 t220 (t220.length : Int) x37_2 ((rd_T30 y215 x29_1).f1) (((rd_T30 y215 x29_1).f1).length : Int) x57_4 ((rd_T36 ((rd_T30 y215 x29_1).f1) x57_4).f1) (((rd_T36 ((rd_T30 y215 x29_1).f1) x57_4).f1).length : Int) (wrap64 (x64_5 + 1)) ((rd_T30 y215 x29_1).f0) ((rd_T30 y215 x29_1).f1) ((rd_T42 t220 x37_2).f0) ((rd_T42 t220 x37_2).f1)) = some r := by rw [if_neg (show ¬ (false = true) by decide)] at H; exact H
                          clear H
                          have H := H1
                          clear H1
                          have H' := Aside0.mk H
                          clear H
                          have p229 : 0 ≤ (x64_5 : Int) := of_decide_eq_true (by first | (with_reducible assumption) | assumption)
                          have q229 : x64_5 < (((rd_T36 ((rd_T30 y215 x29_1).f1) x57_4).f1).length : Int) := of_decide_eq_true (by first | (with_reducible assumption) | assumption)
                          obtain ⟨ad229, e229, hx229_0, hx229_1⟩ := at_T42 HR227_1.out x64_5 p229 q229
                          cases e229
                          replace hx229_0 := (HB2.out.cell (World.block_lt_of_cell? w24 _ hx229_0)).trans hx229_0
                          replace hx229_1 := (HB2.out.cell (World.block_lt_of_cell? w24 _ hx229_1)).trans hx229_1
                          replace p229 := eq_true p229
                          replace q229 := eq_true q229
                          go_wp2_with (first | ((with_reducible refine gate_dst (N := 14) rfl ?_); refine bx 14 (cs := #[.int .u32 0, .int .i64 0]) (t := 42) (h := ?_); intro gb230 hg w70 hbox hb; have BK230 := Aside0.mk hbox; have GW230 : Aside0 (w.heap.size ≤ gb230) := bge hg; have GE230 : Aside0 (w.heap.size ≤ gb230) := bge hg; have GE2_230 : Aside0 (w24.heap.size ≤ gb230) := ⟨by have h2_ := HB2.out.size; have h3_ := hg; omega⟩; have NB206_230 := bne BK206 hg; have NB230_206 := bnf BK206 hg; have NB207_230 := bne BK207 hg; have NB230_207 := bnf BK207 hg; have NB219_230 := bne BK219 hg; have NB230_219 := bnf BK219 hg; have NB224_230 := bne BK224 hg; have NB230_224 := bnf BK224 hg; have NB228_230 := bne BK228 hg; have NB230_228 := bnf BK228 hg; replace HO_7 := Aside0.mk (Kd.R_below (Kd.R_elderB (kR HO_7) gb230 (Nat.le_of_eq hg.symm)) hb); replace HO_27 := Aside0.mk (Kd.N_below (Kd.N_elderB (kN HO_27) gb230 (Nat.le_of_eq hg.symm)) hb); replace HO_35 := Aside0.mk (Kd.R_below (Kd.R_elderB (kR HO_35) gb230 (Nat.le_of_eq hg.symm)) hb); replace HO_208000 := Aside0.mk (Kd.V_below (Kd.V_elderB (kV HO_208000) gb230 (Nat.le_of_eq hg.symm)) hb); replace HO_208001 := Aside0.mk (Kd.V_below (Kd.V_elderB (kV HO_208001) gb230 (Nat.le_of_eq hg.symm)) hb); replace BK206 := bkb BK206 hb; replace BK207 := bkb BK207 hb; replace BK219 := bkb BK219 hb; replace BK224 := bkb BK224 hb; replace BK228 := bkb BK228 hb; replace HB := bst hb; replace HB2 := Aside0.mk (b2t HB2.out hb); clear hb hbox hg; have hnb71 := NB230_206.out; have hnc71 := NB206_230.out; have hnb72 := NB230_207.out; have hnc72 := NB207_230.out; have hnb73 := NB230_219.out; have hnc73 := NB219_230.out; have hnb74 := NB230_224.out; have hnc74 := NB224_230.out; have hnb75 := NB230_228.out; have hnc75 := NB228_230.out; obtain ⟨hcz76_0, hcz76_1, hfz76_0, hfz76_1⟩ := bc2 BK230; have hnb77 := NB224_206.out; have hnc77 := NB206_224.out; have hnb78 := NB224_207.out; have hnc78 := NB207_224.out; have hnb79 := NB224_219.out; have hnc79 := NB219_224.out; have hnb80 := NB224_228.out; have hnc80 := NB228_224.out; obtain ⟨hcz81_0, hcz81_1, hfz81_0, hfz81_1⟩ := bc2 BK224))
                          go_roundg k5
                          case measure => have := HK1.out; have := HK2.out; have := HJ28.out; have := HK4.out; have := HK5.out; omega
                          case rel => exact ⟨((((rd_T42 t220 x37_2).f0) == ((rd_T42 ((rd_T36 ((rd_T30 y215 x29_1).f1) x57_4).f1) x64_5).f0) && (((rd_T42 t220 x37_2).f1) == ((rd_T42 ((rd_T36 ((rd_T30 y215 x29_1).f1) x57_4).f1) x64_5).f1)))), (wrap64 (x64_5 + 1)), (by first | rfl | (simp; done) | (simp [*]; done)), (by first | rfl | (simp; done) | (simp [*]; done)), H', ⟨by have := HK1.out; have := HK2.out; have := HJ28.out; have := HK4.out; have := HK5.out; omega⟩, ⟨by (with_reducible repeat (first | apply Kd.R_alloc | apply Kd.R_drewN | apply Kd.R_drew)); exact Kd.R_mono (Kd.R_far (p := ⟨gb230, 1, none⟩) (Kd.R_far (p := ⟨gb230, 0, none⟩) (Kd.R_mono HO_7.out (fun k_ hk => (⟨hk, hk.2⟩ : _ ∧ k_ ≠ gb230))) (fun _ hk => hk.2) (.int .u32 ((rd_T42 ((rd_T36 ((rd_T30 y215 x29_1).f1) x57_4).f1) x64_5).f0))) (fun _ hk => hk.2) (.int .i64 ((rd_T42 ((rd_T36 ((rd_T30 y215 x29_1).f1) x57_4).f1) x64_5).f1))) (fun _ hk => ⟨hk.1.1.1, hk.1.1.2⟩)⟩, ⟨by (with_reducible repeat (first | apply Kd.N_alloc | apply Kd.N_drewN | apply Kd.N_drew)); exact Kd.N_mono (Kd.N_far (p := ⟨gb230, 1, none⟩) (Kd.N_far (p := ⟨gb230, 0, none⟩) (Kd.N_mono HO_27.out (fun k_ hk => (⟨hk, hk.2⟩ : _ ∧ k_ ≠ gb230))) (fun _ hk => hk.2) (.int .u32 ((rd_T42 ((rd_T36 ((rd_T30 y215 x29_1).f1) x57_4).f1) x64_5).f0))) (fun _ hk => hk.2) (.int .i64 ((rd_T42 ((rd_T36 ((rd_T30 y215 x29_1).f1) x57_4).f1) x64_5).f1))) (fun _ hk => ⟨hk.1.1.1, ⟨hk.1.1.2.1, ⟨hk.1.1.2.2.1, ⟨hk.1.1.2.2.2.1, ⟨hk.1.1.2.2.2.2.1, ⟨hk.1.1.2.2.2.2.2.1, ⟨hk.1.1.2.2.2.2.2.2.1, hk.1.1.2.2.2.2.2.2.2⟩⟩⟩⟩⟩⟩⟩)⟩, ⟨by (with_reducible repeat (first | apply Kd.R_alloc | apply Kd.R_drewN | apply Kd.R_drew)); exact Kd.R_mono (Kd.R_far (p := ⟨gb230, 1, none⟩) (Kd.R_far (p := ⟨gb230, 0, none⟩) (Kd.R_mono HO_35.out (fun k_ hk => (⟨hk, hk.2⟩ : _ ∧ k_ ≠ gb230))) (fun _ hk => hk.2) (.int .u32 ((rd_T42 ((rd_T36 ((rd_T30 y215 x29_1).f1) x57_4).f1) x64_5).f0))) (fun _ hk => hk.2) (.int .i64 ((rd_T42 ((rd_T36 ((rd_T30 y215 x29_1).f1) x57_4).f1) x64_5).f1))) (fun _ hk => ⟨hk.1.1.1, hk.1.1.2⟩)⟩, ⟨by (with_reducible repeat (first | apply Kd.V_alloc | apply Kd.V_drewN | apply Kd.V_drew)); exact Kd.V_mono (Kd.V_far (p := ⟨gb230, 1, none⟩) (Kd.V_far (p := ⟨gb230, 0, none⟩) (Kd.V_mono HO_208000.out (fun k_ hk => (⟨hk, hk.2⟩ : _ ∧ k_ ≠ gb230))) (fun _ hk => hk.2) (.int .u32 ((rd_T42 ((rd_T36 ((rd_T30 y215 x29_1).f1) x57_4).f1) x64_5).f0))) (fun _ hk => hk.2) (.int .i64 ((rd_T42 ((rd_T36 ((rd_T30 y215 x29_1).f1) x57_4).f1) x64_5).f1))) (fun _ hk => ⟨hk.1.1.1, ⟨hk.1.1.2.1, ⟨hk.1.1.2.2.1, ⟨hk.1.1.2.2.2.1, ⟨hk.1.1.2.2.2.2.1, ⟨hk.1.1.2.2.2.2.2.1, ⟨hk.1.1.2.2.2.2.2.2.1, ⟨hk.1.1.2.2.2.2.2.2.2.1, hk.1.1.2.2.2.2.2.2.2.2⟩⟩⟩⟩⟩⟩⟩⟩)⟩, ⟨by (with_reducible repeat (first | apply Kd.V_alloc | apply Kd.V_drewN | apply Kd.V_drew)); exact Kd.V_mono (Kd.V_far (p := ⟨gb230, 1, none⟩) (Kd.V_far (p := ⟨gb230, 0, none⟩) (Kd.V_mono HO_208001.out (fun k_ hk => (⟨hk, hk.2⟩ : _ ∧ k_ ≠ gb230))) (fun _ hk => hk.2) (.int .u32 ((rd_T42 ((rd_T36 ((rd_T30 y215 x29_1).f1) x57_4).f1) x64_5).f0))) (fun _ hk => hk.2) (.int .i64 ((rd_T42 ((rd_T36 ((rd_T30 y215 x29_1).f1) x57_4).f1) x64_5).f1))) (fun _ hk => ⟨hk.1.1.1, ⟨hk.1.1.2.1, ⟨hk.1.1.2.2.1, ⟨hk.1.1.2.2.2.1, ⟨hk.1.1.2.2.2.2.1, ⟨hk.1.1.2.2.2.2.2.1, ⟨hk.1.1.2.2.2.2.2.2.1, ⟨hk.1.1.2.2.2.2.2.2.2.1, hk.1.1.2.2.2.2.2.2.2.2⟩⟩⟩⟩⟩⟩⟩⟩)⟩, ⟨bkq BK206⟩, ⟨bkq BK207⟩, ⟨bkq BK219⟩, ⟨bkq BK224⟩, ⟨bkq BK228⟩, ⟨by repeat (first | (with_reducible first | exact HB.out | apply below_alloc | apply pw_below_drewN | apply below_drew1 | refine below_set ?_ GE206.out | refine below_set ?_ GE207.out | refine below_set ?_ GE219.out | refine below_set ?_ GE224.out | refine below_set ?_ GE228.out | refine below_set ?_ GE230.out) | exact HB.out)⟩, ⟨by repeat (first | (with_reducible first | exact HB2.out | exact Below.refl _ _ | apply below_alloc | apply pw_below_drewN | apply below_drew1 | refine below_set ?_ GE2_224.out | refine below_set ?_ GE2_228.out | refine below_set ?_ GE2_230.out) | exact HB2.out | exact Below.refl _ _)⟩⟩
                        ·rw [if_neg c61] at H
                         exact absurd H (by simp)
                       ·rw [if_neg c60] at H
                        exact absurd H (by simp)
                      ·rw [if_neg c59] at H
                       have c59b0 := decide_eq_false c59
                       clear c59
                       have H' := Aside0.mk H
                       clear H
                       go_wp2
                       go_roundg k5
                       case measure => have := HK1.out; have := HK2.out; have := HJ28.out; have := HK4.out; have := HK5.out; omega
                       case rel => exact ⟨(x10_5), (wrap64 (x57_4 + 1)), (by first | rfl | (simp; done) | (simp [*]; done)), (by first | rfl | (simp; done) | (simp [*]; done)), H', ⟨by have := HK1.out; have := HK2.out; have := HJ28.out; have := HK4.out; have := HK5.out; omega⟩, ⟨by (with_reducible repeat (first | apply Kd.R_alloc | apply Kd.R_drewN | apply Kd.R_drew)); exact HO_7.out⟩, ⟨by (with_reducible repeat (first | apply Kd.N_alloc | apply Kd.N_drewN | apply Kd.N_drew)); exact Kd.N_mono HO_27.out (fun _ hk => ⟨hk.1, ⟨hk.2.1, ⟨hk.2.2.1, ⟨hk.2.2.2.1, ⟨hk.2.2.2.2.1, ⟨hk.2.2.2.2.2.1, hk.2.2.2.2.2.2.1⟩⟩⟩⟩⟩⟩)⟩, ⟨by (with_reducible repeat (first | apply Kd.R_alloc | apply Kd.R_drewN | apply Kd.R_drew)); exact HO_35.out⟩, ⟨by (with_reducible repeat (first | apply Kd.V_alloc | apply Kd.V_drewN | apply Kd.V_drew)); exact Kd.V_mono HO_208000.out (fun _ hk => ⟨hk.1, ⟨hk.2.1, ⟨hk.2.2.1, ⟨hk.2.2.2.1, ⟨hk.2.2.2.2.1, ⟨hk.2.2.2.2.2.1, ⟨hk.2.2.2.2.2.2.1, hk.2.2.2.2.2.2.2.1⟩⟩⟩⟩⟩⟩⟩)⟩, ⟨by (with_reducible repeat (first | apply Kd.V_alloc | apply Kd.V_drewN | apply Kd.V_drew)); exact Kd.V_mono HO_208001.out (fun _ hk => ⟨hk.1, ⟨hk.2.1, ⟨hk.2.2.1, ⟨hk.2.2.2.1, ⟨hk.2.2.2.2.1, ⟨hk.2.2.2.2.2.1, ⟨hk.2.2.2.2.2.2.1, hk.2.2.2.2.2.2.2.1⟩⟩⟩⟩⟩⟩⟩)⟩, ⟨bkq BK206⟩, ⟨bkq BK207⟩, ⟨bkq BK219⟩, ⟨bkq BK224⟩, ⟨by repeat (first | (with_reducible first | exact HB.out | apply below_alloc | apply pw_below_drewN | apply below_drew1 | refine below_set ?_ GE206.out | refine below_set ?_ GE207.out | refine below_set ?_ GE219.out | refine below_set ?_ GE224.out | refine below_set ?_ GE228.out) | exact HB.out)⟩, ⟨by repeat (first | (with_reducible first | exact HB2.out | exact Below.refl _ _ | apply below_alloc | apply pw_below_drewN | apply below_drew1 | refine below_set ?_ GE2_224.out | refine below_set ?_ GE2_228.out | refine below_set ?_ GE2_230.out) | exact HB2.out | exact Below.refl _ _)⟩⟩
                   ·rw [if_neg c52] at H
                    exact absurd H (by simp)
                  ·rw [if_neg c51] at H
                   exact absurd H (by simp)
                 ·rw [if_neg c50] at H
                  have c50b0 := decide_eq_false c50
                  clear c50
                  by_cases c82 : x10_4 = true
                  ·subst c82
                   have H1 : (maquettelaw13_LowerClasses.l1 k4 t220 y215 (y215.length : Int) x29_1 t220 (t220.length : Int) (wrap64 (x37_2 + 1)) ((rd_T30 y215 x29_1).f0) ((rd_T30 y215 x29_1).f1)) = some r := by rw [if_pos rfl] at H; exact H
                   clear H
                   have H := H1
                   clear H1
                   have H' := Aside0.mk H
                   clear H
                   go_wp2
                   go_roundg k4
                   case measure => have := HK1.out; have := HK2.out; have := HJ28.out; have := HK4.out; omega
                   case rel => exact ⟨(wrap64 (x37_2 + 1)), (by first | rfl | (simp; done) | (simp [*]; done)), H', ⟨by have := HK1.out; have := HK2.out; have := HJ28.out; have := HK4.out; omega⟩, ⟨by (with_reducible repeat (first | apply Kd.R_alloc | apply Kd.R_drewN | apply Kd.R_drew)); exact Kd.R_mono HO_7.out (fun _ hk => hk.1)⟩, ⟨by (with_reducible repeat (first | apply Kd.N_alloc | apply Kd.N_drewN | apply Kd.N_drew)); exact Kd.N_mono HO_27.out (fun _ hk => ⟨hk.1, ⟨hk.2.1, ⟨hk.2.2.1, ⟨hk.2.2.2.1, ⟨hk.2.2.2.2.1, hk.2.2.2.2.2.1⟩⟩⟩⟩⟩)⟩, ⟨by (with_reducible repeat (first | apply Kd.R_alloc | apply Kd.R_drewN | apply Kd.R_drew)); exact Kd.R_mono HO_35.out (fun _ hk => hk.1)⟩, ⟨by (with_reducible repeat (first | apply Kd.V_alloc | apply Kd.V_drewN | apply Kd.V_drew)); exact Kd.V_mono HO_208000.out (fun _ hk => ⟨hk.1, ⟨hk.2.1, ⟨hk.2.2.1, ⟨hk.2.2.2.1, ⟨hk.2.2.2.2.1, ⟨hk.2.2.2.2.2.1, hk.2.2.2.2.2.2.1⟩⟩⟩⟩⟩⟩)⟩, ⟨by (with_reducible repeat (first | apply Kd.V_alloc | apply Kd.V_drewN | apply Kd.V_drew)); exact Kd.V_mono HO_208001.out (fun _ hk => ⟨hk.1, ⟨hk.2.1, ⟨hk.2.2.1, ⟨hk.2.2.2.1, ⟨hk.2.2.2.2.1, ⟨hk.2.2.2.2.2.1, hk.2.2.2.2.2.2.1⟩⟩⟩⟩⟩⟩)⟩, ⟨bkq BK206⟩, ⟨bkq BK207⟩, ⟨bkq BK219⟩, ⟨by repeat (first | (with_reducible first | exact HB.out | apply below_alloc | apply pw_below_drewN | apply below_drew1 | refine below_set ?_ GE206.out | refine below_set ?_ GE207.out | refine below_set ?_ GE219.out | refine below_set ?_ GE224.out) | exact HB.out)⟩, ⟨by repeat (first | (with_reducible first | exact HB2.out | exact Below.refl _ _ | apply below_alloc | apply pw_below_drewN | apply below_drew1 | refine below_set ?_ GE2_224.out | refine below_set ?_ GE2_228.out | refine below_set ?_ GE2_230.out) | exact HB2.out | exact Below.refl _ _)⟩⟩
                  ·replace c82 := Bool.eq_false_iff.mpr c82
                   subst c82
                   have H1 : (some false) = some r := by rw [if_neg (show ¬ (false = true) by decide)] at H; exact H
                   clear H
                   have H := H1
                   clear H1
                   obtain rfl := Option.some.inj H
                   go_wp2
                   go_ret
                   exact ⟨by first | rfl | (simp [errW_none, errW_some] <;> rfl) | (simp [*, errW_none, errW_some] <;> rfl), by repeat (first | (with_reducible first | exact HB.out | apply below_alloc | apply pw_below_drewN | apply below_drew1 | refine below_set ?_ GE206.out | refine below_set ?_ GE207.out | refine below_set ?_ GE219.out | refine below_set ?_ GE224.out) | exact HB.out)⟩
           ·rw [if_neg c28] at H
            exact absurd H (by simp)
          ·rw [if_neg c27] at H
           exact absurd H (by simp)
         ·rw [if_neg c26] at H
          have c26b0 := decide_eq_false c26
          clear c26
          have H' := Aside0.mk H
          clear H
          have hnb83 := NB219_206.out
          have hnc83 := NB206_219.out
          have hnb84 := NB219_207.out
          have hnc84 := NB207_219.out
          obtain ⟨hcz85_0, hcz85_1, hfz85_0, hfz85_1⟩ := bc2 BK219
          go_wp2
          go_loopg [82] k2 (fun kq v82 w' => ∃ (x82_3 : Int), v82 = .int .i64 x82_3 ∧ Aside0 (maquettelaw13_LowerClasses.l4 kq t220 y215 (y215.length : Int) x29_1 ((rd_T30 y215 x29_1).f1) (((rd_T30 y215 x29_1).f1).length : Int) x82_3 = some r) ∧ Aside0 (kq ≤ k2) ∧ Aside0 (Kd.R k42 42 w' w.heap.size (fun k_ => (w.heap.size ≤ k_)) (.slice Ao25 t220.length co25) t220) ∧ Aside0 (Kd.N k30 30 w' w.heap.size (fun k_ => ((P1_0_ k_ ∨ P1_1_ k_) ∨ w.heap.size ≤ k_) ∧ some k_ ≠ ((.slice Ao25 t220.length co25) : Value).ownBlock ∧ k_ ≠ gb206 ∧ k_ ≠ gb207 ∧ k_ ≠ gb219) (.slice (some ad218) y215.length co15) y215) ∧ Aside0 (Kd.V k63 63 w' w.heap.size (fun k_ => ((P1_0_ k_ ∨ P1_1_ k_) ∨ w.heap.size ≤ k_) ∧ some k_ ≠ ((.slice Ao25 t220.length co25) : Value).ownBlock ∧ some k_ ≠ ((.slice (some ad218) y215.length co15) : Value).ownBlock ∧ k_ ≠ gb206 ∧ k_ ≠ gb207 ∧ k_ ≠ gb219) (.slice A1_0 l1_0.length c1_0) l1_0) ∧ Aside0 (Kd.V k36 36 w' w.heap.size (fun k_ => ((P1_0_ k_ ∨ P1_1_ k_) ∨ w.heap.size ≤ k_) ∧ some k_ ≠ ((.slice Ao25 t220.length co25) : Value).ownBlock ∧ some k_ ≠ ((.slice (some ad218) y215.length co15) : Value).ownBlock ∧ k_ ≠ gb206 ∧ k_ ≠ gb207 ∧ k_ ≠ gb219) (.slice A1_1 l1_1.length c1_1) l1_1) ∧ Aside0 (w'.heap[gb206]? = some (.cells #[.int .u8 a0_0, (.slice A0_1 l0_1.length c0_1), (.slice A0_2 l0_2.length c0_2), (.slice A0_3 l0_3.length c0_3), (.slice A0_4 l0_4.length c0_4), (.slice A0_5 l0_5.length c0_5)] 25 (0, 0))) ∧ Aside0 (w'.heap[gb207]? = some (.cells #[(.slice A1_0 l1_0.length c1_0), (.slice A1_1 l1_1.length c1_1)] 30 (0, 0))) ∧ Aside0 (w'.heap[gb219]? = some (.cells #[(.slice A218_0 ((rd_T30 y215 x29_1).f0).length c218_0), (.slice A218_1 ((rd_T30 y215 x29_1).f1).length c218_1)] 30 (0, 0))) ∧ Aside0 (Below w.heap.size w w') ∧ Aside0 (Below w24.heap.size w24 w'))
          case atStart => exact ⟨(0), (by first | rfl | (simp; done) | (simp [*]; done)), H', ⟨Nat.le_refl _⟩, ⟨by (with_reducible repeat (first | apply Kd.R_alloc | apply Kd.R_drewN | apply Kd.R_drew)); exact HO_7.out⟩, ⟨by (with_reducible repeat (first | apply Kd.N_alloc | apply Kd.N_drewN | apply Kd.N_drew)); exact Kd.N_mono HO_27.out (fun _ hk => ⟨hk.1, ⟨hk.2.1, ⟨hk.2.2.2.1, ⟨hk.2.2.2.2.1, hk.2.2.2.2.2⟩⟩⟩⟩)⟩, ⟨by (with_reducible repeat (first | apply Kd.V_alloc | apply Kd.V_drewN | apply Kd.V_drew)); exact Kd.V_mono HO_208000.out (fun _ hk => ⟨hk.1, ⟨hk.2.1, ⟨hk.2.2.1, ⟨hk.2.2.2.2.1, ⟨hk.2.2.2.2.2.1, hk.2.2.2.2.2.2⟩⟩⟩⟩⟩)⟩, ⟨by (with_reducible repeat (first | apply Kd.V_alloc | apply Kd.V_drewN | apply Kd.V_drew)); exact Kd.V_mono HO_208001.out (fun _ hk => ⟨hk.1, ⟨hk.2.1, ⟨hk.2.2.1, ⟨hk.2.2.2.2.1, ⟨hk.2.2.2.2.2.1, hk.2.2.2.2.2.2⟩⟩⟩⟩⟩)⟩, ⟨bkq BK206⟩, ⟨bkq BK207⟩, ⟨bkq BK219⟩, ⟨by repeat (first | (with_reducible first | exact HB.out | apply below_alloc | apply pw_below_drewN | apply below_drew1 | refine below_set ?_ GE206.out | refine below_set ?_ GE207.out | refine below_set ?_ GE219.out) | exact HB.out)⟩, ⟨by repeat (first | (with_reducible first | exact HB2.out | exact Below.refl _ _ | apply below_alloc | apply pw_below_drewN | apply below_drew1 | refine below_set ?_ GE2_224.out | refine below_set ?_ GE2_228.out | refine below_set ?_ GE2_230.out) | exact HB2.out | exact Below.refl _ _)⟩⟩
          case round =>
           clear H'
           try clear c1
           try clear c2
           try clear p2 p2
           try clear q2 q2
           try clear hx2
           try clear c3
           try clear c4
           try clear c5
           try clear c6
           try clear p6 p6
           try clear c7
           try clear c8
           try clear c10
           try clear c14
           try clear c16
           try clear c16b0
           try clear c17
           try clear c17b0
           try clear c18
           try clear c18b0
           try clear c21
           try clear p21 p21
           try clear q21 q21
           try clear hx21
           try clear c22
           try clear p22 p22
           try clear q22 q22
           try clear hx22
           try clear c26
           try clear c26b0
           try clear c27
           try clear c27b0
           try clear c28
           try clear c28b0
           try clear c31
           try clear c32
           try clear c33
           try clear c35
           try clear c35b0
           try clear c37
           try clear c37b0
           try clear c38
           try clear c38b0
           try clear c45
           try clear c46
           try clear c47
           try clear c48
           try clear c50
           try clear c50b0
           try clear c51
           try clear c51b0
           try clear c52
           try clear c52b0
           try clear c54
           try clear c55
           try clear c56
           try clear c57
           try clear c59
           try clear c59b0
           try clear c60
           try clear c60b0
           try clear c61
           try clear c61b0
           try clear c62
           try clear c64
           try clear p64
           try clear c65
           try clear c66
           try clear c67
           try clear c68
           try clear c71
           try clear c72
           try clear c73
           try clear c74
           try clear c75
           try clear c77
           try clear c78
           try clear c79
           try clear c80
           try clear c82
           try clear c83
           try clear c84
           try clear hcz23_0 hcz23_1 hfz23_0 hfz23_1
           try clear hcz34_0 hcz34_1 hfz34_0 hfz34_1
           try clear hcz49_0 hcz49_1 hfz49_0 hfz49_1
           try clear hcz58_0 hcz58_1 hcz58_2 hcz58_3 hcz58_4 hfz58_0 hfz58_1 hfz58_2 hfz58_3 hfz58_4
           try clear hcz69_0 hcz69_1 hfz69_0 hfz69_1
           try clear hcz76_0 hcz76_1 hfz76_0 hfz76_1
           try clear hcz81_0 hcz81_1 hfz81_0 hfz81_1
           try clear hcz85_0 hcz85_1 hfz85_0 hfz85_1
           try clear hx218_0
           try clear hx218_1
           try clear hx223_0
           try clear hx223_1
           try clear hx225_0
           try clear hx225_1
           try clear hx227_0
           try clear hx227_1
           try clear hx227_2
           try clear hx227_3
           try clear hx227_4
           try clear hx229_0
           try clear hx229_1
           try clear p218
           try clear p223
           try clear p225
           try clear p227
           try clear p229
           try clear q218
           try clear q223
           try clear q225
           try clear q227
           try clear q229
           obtain ⟨x82_3, rfl, HA, HK3, HO_7, HO_27, HO_208000, HO_208001, BK206, BK207, BK219, HB, HB2⟩ := hrel
           cases gk with
           | zero => exact absurd HA.out (by simp [maquettelaw13_LowerClasses.l4])
           | succ k3 =>
            have H := HA.out
            clear HA
            simp only [maquettelaw13_LowerClasses.l4] at H
            by_cases c86 : x82_3 < (((rd_T30 y215 x29_1).f1).length : Int)
            ·rw [if_pos c86] at H
             have c86b0 := decide_eq_true c86
             clear c86
             by_cases c87 : 0 ≤ x82_3
             ·rw [if_pos c87] at H
              have c87b0 := decide_eq_true c87
              clear c87
              by_cases c88 : x82_3 < (((rd_T30 y215 x29_1).f1).length : Int)
              ·rw [if_pos c88] at H
               have c88b0 := decide_eq_true c88
               clear c88
               have H' := Aside0.mk H
               clear H
               have p231 : 0 ≤ (x82_3 : Int) := of_decide_eq_true (by first | (with_reducible assumption) | assumption)
               have q231 : x82_3 < (((rd_T30 y215 x29_1).f1).length : Int) := of_decide_eq_true (by first | (with_reducible assumption) | assumption)
               obtain ⟨ad231, A231_1, c231_1, A231_2, c231_2, A231_3, c231_3, e231, hx231_0, hx231_1, hx231_2, hx231_3, hx231_4, hl231_1, hi231_1, hl231_2, hi231_2, hl231_3, hi231_3⟩ := at_T36 HR218_1.out x82_3 p231 q231
               cases e231
               replace hx231_0 := (HB2.out.cell (World.block_lt_of_cell? w24 _ hx231_0)).trans hx231_0
               replace hx231_1 := (HB2.out.cell (World.block_lt_of_cell? w24 _ hx231_1)).trans hx231_1
               replace hx231_2 := (HB2.out.cell (World.block_lt_of_cell? w24 _ hx231_2)).trans hx231_2
               replace hx231_3 := (HB2.out.cell (World.block_lt_of_cell? w24 _ hx231_3)).trans hx231_3
               replace hx231_4 := (HB2.out.cell (World.block_lt_of_cell? w24 _ hx231_4)).trans hx231_4
               have HR231_1 := Aside0.mk hi231_1
               have HC231_1 := Aside0.mk hl231_1
               clear hi231_1 hl231_1
               have HR231_2 := Aside0.mk hi231_2
               have HC231_2 := Aside0.mk hl231_2
               clear hi231_2 hl231_2
               have HR231_3 := Aside0.mk hi231_3
               have HC231_3 := Aside0.mk hl231_3
               clear hi231_3 hl231_3
               replace p231 := eq_true p231
               replace q231 := eq_true q231
               go_wp2_with (first | ((with_reducible refine gate_dst (N := 16) rfl ?_); refine bx 16 (cs := #[.string (⟨#[]⟩ : ByteArray), .slice none 0 0, .slice none 0 0, .slice none 0 0, .int .i64 0]) (t := 36) (h := ?_); intro gb232 hg w89 hbox hb; have BK232 := Aside0.mk hbox; have GW232 : Aside0 (w.heap.size ≤ gb232) := bge hg; have GE232 : Aside0 (w.heap.size ≤ gb232) := bge hg; have GE2_232 : Aside0 (w24.heap.size ≤ gb232) := ⟨by have h2_ := HB2.out.size; have h3_ := hg; omega⟩; have NB206_232 := bne BK206 hg; have NB232_206 := bnf BK206 hg; have NB207_232 := bne BK207 hg; have NB232_207 := bnf BK207 hg; have NB219_232 := bne BK219 hg; have NB232_219 := bnf BK219 hg; replace HO_7 := Aside0.mk (Kd.R_below (kR HO_7) hb); replace HO_27 := Aside0.mk (Kd.N_below (Kd.N_elderB (kN HO_27) gb232 (Nat.le_of_eq hg.symm)) hb); replace HO_208000 := Aside0.mk (Kd.V_below (Kd.V_elderB (kV HO_208000) gb232 (Nat.le_of_eq hg.symm)) hb); replace HO_208001 := Aside0.mk (Kd.V_below (Kd.V_elderB (kV HO_208001) gb232 (Nat.le_of_eq hg.symm)) hb); replace BK206 := bkb BK206 hb; replace BK207 := bkb BK207 hb; replace BK219 := bkb BK219 hb; replace HB := bst hb; replace HB2 := Aside0.mk (b2t HB2.out hb); clear hb hbox hg; have hnb90 := NB232_206.out; have hnc90 := NB206_232.out; have hnb91 := NB232_207.out; have hnc91 := NB207_232.out; have hnb92 := NB232_219.out; have hnc92 := NB219_232.out; obtain ⟨hcz93_0, hcz93_1, hcz93_2, hcz93_3, hcz93_4, hfz93_0, hfz93_1, hfz93_2, hfz93_3, hfz93_4⟩ := bc5 BK232))
               go_loopg [89] k3 (fun kq v89 w' => ∃ (x89_4 : Int), v89 = .int .i64 x89_4 ∧ Aside0 (maquettelaw13_LowerClasses.l5 kq t220 y215 (y215.length : Int) x29_1 ((rd_T30 y215 x29_1).f1) (((rd_T30 y215 x29_1).f1).length : Int) x82_3 ((rd_T36 ((rd_T30 y215 x29_1).f1) x82_3).f1) (((rd_T36 ((rd_T30 y215 x29_1).f1) x82_3).f1).length : Int) x89_4 = some r) ∧ Aside0 (kq ≤ k3) ∧ Aside0 (Kd.R k42 42 w' w.heap.size (fun k_ => (w.heap.size ≤ k_)) (.slice Ao25 t220.length co25) t220) ∧ Aside0 (Kd.N k30 30 w' w.heap.size (fun k_ => ((P1_0_ k_ ∨ P1_1_ k_) ∨ w.heap.size ≤ k_) ∧ some k_ ≠ ((.slice Ao25 t220.length co25) : Value).ownBlock ∧ k_ ≠ gb206 ∧ k_ ≠ gb207 ∧ k_ ≠ gb219 ∧ k_ ≠ gb232) (.slice (some ad218) y215.length co15) y215) ∧ Aside0 (Kd.V k63 63 w' w.heap.size (fun k_ => ((P1_0_ k_ ∨ P1_1_ k_) ∨ w.heap.size ≤ k_) ∧ some k_ ≠ ((.slice Ao25 t220.length co25) : Value).ownBlock ∧ some k_ ≠ ((.slice (some ad218) y215.length co15) : Value).ownBlock ∧ k_ ≠ gb206 ∧ k_ ≠ gb207 ∧ k_ ≠ gb219 ∧ k_ ≠ gb232) (.slice A1_0 l1_0.length c1_0) l1_0) ∧ Aside0 (Kd.V k36 36 w' w.heap.size (fun k_ => ((P1_0_ k_ ∨ P1_1_ k_) ∨ w.heap.size ≤ k_) ∧ some k_ ≠ ((.slice Ao25 t220.length co25) : Value).ownBlock ∧ some k_ ≠ ((.slice (some ad218) y215.length co15) : Value).ownBlock ∧ k_ ≠ gb206 ∧ k_ ≠ gb207 ∧ k_ ≠ gb219 ∧ k_ ≠ gb232) (.slice A1_1 l1_1.length c1_1) l1_1) ∧ Aside0 (w'.heap[gb206]? = some (.cells #[.int .u8 a0_0, (.slice A0_1 l0_1.length c0_1), (.slice A0_2 l0_2.length c0_2), (.slice A0_3 l0_3.length c0_3), (.slice A0_4 l0_4.length c0_4), (.slice A0_5 l0_5.length c0_5)] 25 (0, 0))) ∧ Aside0 (w'.heap[gb207]? = some (.cells #[(.slice A1_0 l1_0.length c1_0), (.slice A1_1 l1_1.length c1_1)] 30 (0, 0))) ∧ Aside0 (w'.heap[gb219]? = some (.cells #[(.slice A218_0 ((rd_T30 y215 x29_1).f0).length c218_0), (.slice (some ad231) ((rd_T30 y215 x29_1).f1).length c218_1)] 30 (0, 0))) ∧ Aside0 (w'.heap[gb232]? = some (.cells #[.string ((rd_T36 ((rd_T30 y215 x29_1).f1) x82_3).f0), (.slice A231_1 ((rd_T36 ((rd_T30 y215 x29_1).f1) x82_3).f1).length c231_1), (.slice A231_2 ((rd_T36 ((rd_T30 y215 x29_1).f1) x82_3).f2).length c231_2), (.slice A231_3 ((rd_T36 ((rd_T30 y215 x29_1).f1) x82_3).f3).length c231_3), .int .i64 ((rd_T36 ((rd_T30 y215 x29_1).f1) x82_3).f4)] 36 (0, 0))) ∧ Aside0 (Below w.heap.size w w') ∧ Aside0 (Below w24.heap.size w24 w'))
               case atStart => exact ⟨(0), (by first | rfl | (simp; done) | (simp [*]; done)), H', ⟨Nat.le_refl _⟩, ⟨by (with_reducible repeat (first | apply Kd.R_alloc | apply Kd.R_drewN | apply Kd.R_drew)); exact Kd.R_mono (Kd.R_far (p := ⟨gb232, 4, none⟩) (Kd.R_far (p := ⟨gb232, 3, none⟩) (Kd.R_far (p := ⟨gb232, 2, none⟩) (Kd.R_far (p := ⟨gb232, 1, none⟩) (Kd.R_far (p := ⟨gb232, 0, none⟩) (Kd.R_types HO_7.out BK232.out (by decide)) (fun _ hk => hk.2) (.string ((rd_T36 ((rd_T30 y215 x29_1).f1) x82_3).f0))) (fun _ hk => hk.2) (.slice A231_1 ((rd_T36 ((rd_T30 y215 x29_1).f1) x82_3).f1).length c231_1)) (fun _ hk => hk.2) (.slice A231_2 ((rd_T36 ((rd_T30 y215 x29_1).f1) x82_3).f2).length c231_2)) (fun _ hk => hk.2) (.slice A231_3 ((rd_T36 ((rd_T30 y215 x29_1).f1) x82_3).f3).length c231_3)) (fun _ hk => hk.2) (.int .i64 ((rd_T36 ((rd_T30 y215 x29_1).f1) x82_3).f4))) (fun _ hk => hk.1)⟩, ⟨by (with_reducible repeat (first | apply Kd.N_alloc | apply Kd.N_drewN | apply Kd.N_drew)); exact Kd.N_mono (Kd.N_far (p := ⟨gb232, 4, none⟩) (Kd.N_far (p := ⟨gb232, 3, none⟩) (Kd.N_far (p := ⟨gb232, 2, none⟩) (Kd.N_far (p := ⟨gb232, 1, none⟩) (Kd.N_far (p := ⟨gb232, 0, none⟩) (Kd.N_mono HO_27.out (fun k_ hk => (⟨hk, hk.2⟩ : _ ∧ k_ ≠ gb232))) (fun _ hk => hk.2) (.string ((rd_T36 ((rd_T30 y215 x29_1).f1) x82_3).f0))) (fun _ hk => hk.2) (.slice A231_1 ((rd_T36 ((rd_T30 y215 x29_1).f1) x82_3).f1).length c231_1)) (fun _ hk => hk.2) (.slice A231_2 ((rd_T36 ((rd_T30 y215 x29_1).f1) x82_3).f2).length c231_2)) (fun _ hk => hk.2) (.slice A231_3 ((rd_T36 ((rd_T30 y215 x29_1).f1) x82_3).f3).length c231_3)) (fun _ hk => hk.2) (.int .i64 ((rd_T36 ((rd_T30 y215 x29_1).f1) x82_3).f4))) (fun _ hk => ⟨hk.1.1.1, ⟨hk.1.1.2.1, ⟨hk.1.1.2.2.1, ⟨hk.1.1.2.2.2.1, ⟨hk.1.1.2.2.2.2, hk.1.2⟩⟩⟩⟩⟩)⟩, ⟨by (with_reducible repeat (first | apply Kd.V_alloc | apply Kd.V_drewN | apply Kd.V_drew)); exact Kd.V_mono (Kd.V_far (p := ⟨gb232, 4, none⟩) (Kd.V_far (p := ⟨gb232, 3, none⟩) (Kd.V_far (p := ⟨gb232, 2, none⟩) (Kd.V_far (p := ⟨gb232, 1, none⟩) (Kd.V_far (p := ⟨gb232, 0, none⟩) (Kd.V_mono HO_208000.out (fun k_ hk => (⟨hk, hk.2⟩ : _ ∧ k_ ≠ gb232))) (fun _ hk => hk.2) (.string ((rd_T36 ((rd_T30 y215 x29_1).f1) x82_3).f0))) (fun _ hk => hk.2) (.slice A231_1 ((rd_T36 ((rd_T30 y215 x29_1).f1) x82_3).f1).length c231_1)) (fun _ hk => hk.2) (.slice A231_2 ((rd_T36 ((rd_T30 y215 x29_1).f1) x82_3).f2).length c231_2)) (fun _ hk => hk.2) (.slice A231_3 ((rd_T36 ((rd_T30 y215 x29_1).f1) x82_3).f3).length c231_3)) (fun _ hk => hk.2) (.int .i64 ((rd_T36 ((rd_T30 y215 x29_1).f1) x82_3).f4))) (fun _ hk => ⟨hk.1.1.1, ⟨hk.1.1.2.1, ⟨hk.1.1.2.2.1, ⟨hk.1.1.2.2.2.1, ⟨hk.1.1.2.2.2.2.1, ⟨hk.1.1.2.2.2.2.2, hk.1.2⟩⟩⟩⟩⟩⟩)⟩, ⟨by (with_reducible repeat (first | apply Kd.V_alloc | apply Kd.V_drewN | apply Kd.V_drew)); exact Kd.V_mono (Kd.V_far (p := ⟨gb232, 4, none⟩) (Kd.V_far (p := ⟨gb232, 3, none⟩) (Kd.V_far (p := ⟨gb232, 2, none⟩) (Kd.V_far (p := ⟨gb232, 1, none⟩) (Kd.V_far (p := ⟨gb232, 0, none⟩) (Kd.V_mono HO_208001.out (fun k_ hk => (⟨hk, hk.2⟩ : _ ∧ k_ ≠ gb232))) (fun _ hk => hk.2) (.string ((rd_T36 ((rd_T30 y215 x29_1).f1) x82_3).f0))) (fun _ hk => hk.2) (.slice A231_1 ((rd_T36 ((rd_T30 y215 x29_1).f1) x82_3).f1).length c231_1)) (fun _ hk => hk.2) (.slice A231_2 ((rd_T36 ((rd_T30 y215 x29_1).f1) x82_3).f2).length c231_2)) (fun _ hk => hk.2) (.slice A231_3 ((rd_T36 ((rd_T30 y215 x29_1).f1) x82_3).f3).length c231_3)) (fun _ hk => hk.2) (.int .i64 ((rd_T36 ((rd_T30 y215 x29_1).f1) x82_3).f4))) (fun _ hk => ⟨hk.1.1.1, ⟨hk.1.1.2.1, ⟨hk.1.1.2.2.1, ⟨hk.1.1.2.2.2.1, ⟨hk.1.1.2.2.2.2.1, ⟨hk.1.1.2.2.2.2.2, hk.1.2⟩⟩⟩⟩⟩⟩)⟩, ⟨bkq BK206⟩, ⟨bkq BK207⟩, ⟨bkq BK219⟩, ⟨bkp BK232⟩, ⟨by repeat (first | (with_reducible first | exact HB.out | apply below_alloc | apply pw_below_drewN | apply below_drew1 | refine below_set ?_ GE206.out | refine below_set ?_ GE207.out | refine below_set ?_ GE219.out | refine below_set ?_ GE232.out) | exact HB.out)⟩, ⟨by repeat (first | (with_reducible first | exact HB2.out | exact Below.refl _ _ | apply below_alloc | apply pw_below_drewN | apply below_drew1 | refine below_set ?_ GE2_224.out | refine below_set ?_ GE2_228.out | refine below_set ?_ GE2_230.out | refine below_set ?_ GE2_232.out) | exact HB2.out | exact Below.refl _ _)⟩⟩
               case round =>
                clear H'
                try clear c1
                try clear c2
                try clear p2 p2
                try clear q2 q2
                try clear hx2
                try clear c3
                try clear c4
                try clear c5
                try clear c6
                try clear p6 p6
                try clear c7
                try clear c8
                try clear c9
                try clear c10
                try clear c14
                try clear c16
                try clear c16b0
                try clear c17
                try clear c17b0
                try clear c18
                try clear c18b0
                try clear c21
                try clear p21 p21
                try clear q21 q21
                try clear hx21
                try clear c22
                try clear p22 p22
                try clear q22 q22
                try clear hx22
                try clear c23
                try clear p23
                try clear q23
                try clear hx23
                try clear c26
                try clear c26b0
                try clear c27
                try clear c27b0
                try clear c28
                try clear c28b0
                try clear c31
                try clear c32
                try clear c33
                try clear c35
                try clear c35b0
                try clear c37
                try clear c37b0
                try clear c38
                try clear c38b0
                try clear c45
                try clear c46
                try clear c47
                try clear c48
                try clear c50
                try clear c50b0
                try clear c51
                try clear c51b0
                try clear c52
                try clear c52b0
                try clear c54
                try clear c55
                try clear c56
                try clear c57
                try clear c59
                try clear c59b0
                try clear c60
                try clear c60b0
                try clear c61
                try clear c61b0
                try clear c62
                try clear c64
                try clear p64 p64
                try clear c65
                try clear c66
                try clear c67
                try clear c68
                try clear c71
                try clear c72
                try clear c73
                try clear c74
                try clear c75
                try clear c77
                try clear c78
                try clear c79
                try clear c80
                try clear c82
                try clear c83
                try clear c84
                try clear c86
                try clear c86b0
                try clear c87
                try clear c87b0
                try clear c88
                try clear c88b0
                try clear c90
                try clear c91
                try clear c92
                try clear hcz23_0 hcz23_1 hfz23_0 hfz23_1
                try clear hcz34_0 hcz34_1 hfz34_0 hfz34_1
                try clear hcz49_0 hcz49_1 hfz49_0 hfz49_1
                try clear hcz58_0 hcz58_1 hcz58_2 hcz58_3 hcz58_4 hfz58_0 hfz58_1 hfz58_2 hfz58_3 hfz58_4
                try clear hcz69_0 hcz69_1 hfz69_0 hfz69_1
                try clear hcz76_0 hcz76_1 hfz76_0 hfz76_1
                try clear hcz81_0 hcz81_1 hfz81_0 hfz81_1
                try clear hcz85_0 hcz85_1 hfz85_0 hfz85_1
                try clear hcz93_0 hcz93_1 hcz93_2 hcz93_3 hcz93_4 hfz93_0 hfz93_1 hfz93_2 hfz93_3 hfz93_4
                try clear hx218_0
                try clear hx218_1
                try clear hx223_0
                try clear hx223_1
                try clear hx225_0
                try clear hx225_1
                try clear hx227_0
                try clear hx227_1
                try clear hx227_2
                try clear hx227_3
                try clear hx227_4
                try clear hx229_0
                try clear hx229_1
                try clear hx231_0
                try clear hx231_1
                try clear hx231_2
                try clear hx231_3
                try clear hx231_4
                try clear p218
                try clear p223
                try clear p225
                try clear p227
                try clear p229
                try clear p231
                try clear q218
                try clear q223
                try clear q225
                try clear q227
                try clear q229
                try clear q231
                obtain ⟨x89_4, rfl, HA, HK4, HO_7, HO_27, HO_208000, HO_208001, BK206, BK207, BK219, BK232, HB, HB2⟩ := hrel
                cases gk with
                | zero => exact absurd HA.out (by simp [maquettelaw13_LowerClasses.l5])
                | succ k4 =>
                 have H := HA.out
                 clear HA
                 simp only [maquettelaw13_LowerClasses.l5] at H
                 by_cases c94 : x89_4 < (((rd_T36 ((rd_T30 y215 x29_1).f1) x82_3).f1).length : Int)
                 ·rw [if_pos c94] at H
                  have c94b0 := decide_eq_true c94
                  clear c94
                  by_cases c95 : 0 ≤ x89_4
                  ·rw [if_pos c95] at H
                   have c95b0 := decide_eq_true c95
                   clear c95
                   by_cases c96 : x89_4 < (((rd_T36 ((rd_T30 y215 x29_1).f1) x82_3).f1).length : Int)
                   ·rw [if_pos c96] at H
                    have c96b0 := decide_eq_true c96
                    clear c96
                    have H' := Aside0.mk H
                    clear H
                    have p233 : 0 ≤ (x89_4 : Int) := of_decide_eq_true (by first | (with_reducible assumption) | assumption)
                    have q233 : x89_4 < (((rd_T36 ((rd_T30 y215 x29_1).f1) x82_3).f1).length : Int) := of_decide_eq_true (by first | (with_reducible assumption) | assumption)
                    obtain ⟨ad233, e233, hx233_0, hx233_1⟩ := at_T42 HR231_1.out x89_4 p233 q233
                    cases e233
                    replace hx233_0 := (HB2.out.cell (World.block_lt_of_cell? w24 _ hx233_0)).trans hx233_0
                    replace hx233_1 := (HB2.out.cell (World.block_lt_of_cell? w24 _ hx233_1)).trans hx233_1
                    replace p233 := eq_true p233
                    replace q233 := eq_true q233
                    go_wp2_with (first | ((with_reducible refine gate_dst (N := 18) rfl ?_); refine bx 18 (cs := #[.int .u32 0, .int .i64 0]) (t := 42) (h := ?_); intro gb234 hg w97 hbox hb; have BK234 := Aside0.mk hbox; have GW234 : Aside0 (w.heap.size ≤ gb234) := bge hg; have GE234 : Aside0 (w.heap.size ≤ gb234) := bge hg; have GE2_234 : Aside0 (w24.heap.size ≤ gb234) := ⟨by have h2_ := HB2.out.size; have h3_ := hg; omega⟩; have NB206_234 := bne BK206 hg; have NB234_206 := bnf BK206 hg; have NB207_234 := bne BK207 hg; have NB234_207 := bnf BK207 hg; have NB219_234 := bne BK219 hg; have NB234_219 := bnf BK219 hg; have NB232_234 := bne BK232 hg; have NB234_232 := bnf BK232 hg; replace HO_7 := Aside0.mk (Kd.R_below (Kd.R_elderB (kR HO_7) gb234 (Nat.le_of_eq hg.symm)) hb); replace HO_27 := Aside0.mk (Kd.N_below (Kd.N_elderB (kN HO_27) gb234 (Nat.le_of_eq hg.symm)) hb); replace HO_208000 := Aside0.mk (Kd.V_below (Kd.V_elderB (kV HO_208000) gb234 (Nat.le_of_eq hg.symm)) hb); replace HO_208001 := Aside0.mk (Kd.V_below (Kd.V_elderB (kV HO_208001) gb234 (Nat.le_of_eq hg.symm)) hb); replace BK206 := bkb BK206 hb; replace BK207 := bkb BK207 hb; replace BK219 := bkb BK219 hb; replace BK232 := bkb BK232 hb; replace HB := bst hb; replace HB2 := Aside0.mk (b2t HB2.out hb); clear hb hbox hg; have hnb98 := NB234_206.out; have hnc98 := NB206_234.out; have hnb99 := NB234_207.out; have hnc99 := NB207_234.out; have hnb100 := NB234_219.out; have hnc100 := NB219_234.out; have hnb101 := NB234_232.out; have hnc101 := NB232_234.out; obtain ⟨hcz102_0, hcz102_1, hfz102_0, hfz102_1⟩ := bc2 BK234))
                    go_loopg [19, 95] k4 (fun kq v19 v95 w' => ∃ (x19_5 : Bool) (x95_5 : Int), v19 = .bool x19_5 ∧ v95 = .int .i64 x95_5 ∧ Aside0 (maquettelaw13_LowerClasses.l6 kq t220 x19_5 y215 (y215.length : Int) x29_1 ((rd_T30 y215 x29_1).f1) (((rd_T30 y215 x29_1).f1).length : Int) x82_3 ((rd_T36 ((rd_T30 y215 x29_1).f1) x82_3).f1) (((rd_T36 ((rd_T30 y215 x29_1).f1) x82_3).f1).length : Int) x89_4 t220 (t220.length : Int) x95_5 ((rd_T42 ((rd_T36 ((rd_T30 y215 x29_1).f1) x82_3).f1) x89_4).f0) ((rd_T42 ((rd_T36 ((rd_T30 y215 x29_1).f1) x82_3).f1) x89_4).f1) = some r) ∧ Aside0 (kq ≤ k4) ∧ Aside0 (Kd.R k42 42 w' w.heap.size (fun k_ => (w.heap.size ≤ k_) ∧ k_ ≠ gb234) (.slice Ao25 t220.length co25) t220) ∧ Aside0 (Kd.N k30 30 w' w.heap.size (fun k_ => ((P1_0_ k_ ∨ P1_1_ k_) ∨ w.heap.size ≤ k_) ∧ some k_ ≠ ((.slice Ao25 t220.length co25) : Value).ownBlock ∧ some k_ ≠ ((.slice Ao25 t220.length co25) : Value).ownBlock ∧ k_ ≠ gb206 ∧ k_ ≠ gb207 ∧ k_ ≠ gb219 ∧ k_ ≠ gb232 ∧ k_ ≠ gb234) (.slice (some ad218) y215.length co15) y215) ∧ Aside0 (Kd.R k42 42 w' w.heap.size (fun k_ => (w.heap.size ≤ k_) ∧ k_ ≠ gb234) (.slice Ao25 t220.length co25) t220) ∧ Aside0 (Kd.V k63 63 w' w.heap.size (fun k_ => ((P1_0_ k_ ∨ P1_1_ k_) ∨ w.heap.size ≤ k_) ∧ some k_ ≠ ((.slice Ao25 t220.length co25) : Value).ownBlock ∧ some k_ ≠ ((.slice (some ad218) y215.length co15) : Value).ownBlock ∧ some k_ ≠ ((.slice Ao25 t220.length co25) : Value).ownBlock ∧ k_ ≠ gb206 ∧ k_ ≠ gb207 ∧ k_ ≠ gb219 ∧ k_ ≠ gb232 ∧ k_ ≠ gb234) (.slice A1_0 l1_0.length c1_0) l1_0) ∧ Aside0 (Kd.V k36 36 w' w.heap.size (fun k_ => ((P1_0_ k_ ∨ P1_1_ k_) ∨ w.heap.size ≤ k_) ∧ some k_ ≠ ((.slice Ao25 t220.length co25) : Value).ownBlock ∧ some k_ ≠ ((.slice (some ad218) y215.length co15) : Value).ownBlock ∧ some k_ ≠ ((.slice Ao25 t220.length co25) : Value).ownBlock ∧ k_ ≠ gb206 ∧ k_ ≠ gb207 ∧ k_ ≠ gb219 ∧ k_ ≠ gb232 ∧ k_ ≠ gb234) (.slice A1_1 l1_1.length c1_1) l1_1) ∧ Aside0 (w'.heap[gb206]? = some (.cells #[.int .u8 a0_0, (.slice A0_1 l0_1.length c0_1), (.slice A0_2 l0_2.length c0_2), (.slice A0_3 l0_3.length c0_3), (.slice A0_4 l0_4.length c0_4), (.slice A0_5 l0_5.length c0_5)] 25 (0, 0))) ∧ Aside0 (w'.heap[gb207]? = some (.cells #[(.slice A1_0 l1_0.length c1_0), (.slice A1_1 l1_1.length c1_1)] 30 (0, 0))) ∧ Aside0 (w'.heap[gb219]? = some (.cells #[(.slice A218_0 ((rd_T30 y215 x29_1).f0).length c218_0), (.slice (some ad231) ((rd_T30 y215 x29_1).f1).length c218_1)] 30 (0, 0))) ∧ Aside0 (w'.heap[gb232]? = some (.cells #[.string ((rd_T36 ((rd_T30 y215 x29_1).f1) x82_3).f0), (.slice (some ad233) ((rd_T36 ((rd_T30 y215 x29_1).f1) x82_3).f1).length c231_1), (.slice A231_2 ((rd_T36 ((rd_T30 y215 x29_1).f1) x82_3).f2).length c231_2), (.slice A231_3 ((rd_T36 ((rd_T30 y215 x29_1).f1) x82_3).f3).length c231_3), .int .i64 ((rd_T36 ((rd_T30 y215 x29_1).f1) x82_3).f4)] 36 (0, 0))) ∧ Aside0 (w'.heap[gb234]? = some (.cells #[.int .u32 ((rd_T42 ((rd_T36 ((rd_T30 y215 x29_1).f1) x82_3).f1) x89_4).f0), .int .i64 ((rd_T42 ((rd_T36 ((rd_T30 y215 x29_1).f1) x82_3).f1) x89_4).f1)] 42 (0, 0))) ∧ Aside0 (Below w.heap.size w w') ∧ Aside0 (Below w24.heap.size w24 w'))
                    case atStart => exact ⟨(false), (0), (by first | rfl | (simp; done) | (simp [*]; done)), (by first | rfl | (simp; done) | (simp [*]; done)), H', ⟨Nat.le_refl _⟩, ⟨by (with_reducible repeat (first | apply Kd.R_alloc | apply Kd.R_drewN | apply Kd.R_drew)); exact Kd.R_mono (Kd.R_far (p := ⟨gb234, 1, none⟩) (Kd.R_far (p := ⟨gb234, 0, none⟩) (Kd.R_mono HO_7.out (fun k_ hk => (⟨hk, hk.2⟩ : _ ∧ k_ ≠ gb234))) (fun _ hk => hk.2) (.int .u32 ((rd_T42 ((rd_T36 ((rd_T30 y215 x29_1).f1) x82_3).f1) x89_4).f0))) (fun _ hk => hk.2) (.int .i64 ((rd_T42 ((rd_T36 ((rd_T30 y215 x29_1).f1) x82_3).f1) x89_4).f1))) (fun _ hk => ⟨hk.1.1, hk.1.2⟩)⟩, ⟨by (with_reducible repeat (first | apply Kd.N_alloc | apply Kd.N_drewN | apply Kd.N_drew)); exact Kd.N_mono (Kd.N_far (p := ⟨gb234, 1, none⟩) (Kd.N_far (p := ⟨gb234, 0, none⟩) (Kd.N_mono HO_27.out (fun k_ hk => (⟨hk, hk.2⟩ : _ ∧ k_ ≠ gb234))) (fun _ hk => hk.2) (.int .u32 ((rd_T42 ((rd_T36 ((rd_T30 y215 x29_1).f1) x82_3).f1) x89_4).f0))) (fun _ hk => hk.2) (.int .i64 ((rd_T42 ((rd_T36 ((rd_T30 y215 x29_1).f1) x82_3).f1) x89_4).f1))) (fun _ hk => ⟨hk.1.1.1, ⟨hk.1.1.2.1, ⟨hk.1.1.2.1, ⟨hk.1.1.2.2.1, ⟨hk.1.1.2.2.2.1, ⟨hk.1.1.2.2.2.2.1, ⟨hk.1.1.2.2.2.2.2, hk.1.2⟩⟩⟩⟩⟩⟩⟩)⟩, ⟨by (with_reducible repeat (first | apply Kd.R_alloc | apply Kd.R_drewN | apply Kd.R_drew)); exact Kd.R_mono (Kd.R_far (p := ⟨gb234, 1, none⟩) (Kd.R_far (p := ⟨gb234, 0, none⟩) (Kd.R_mono HO_7.out (fun k_ hk => (⟨hk, hk.2⟩ : _ ∧ k_ ≠ gb234))) (fun _ hk => hk.2) (.int .u32 ((rd_T42 ((rd_T36 ((rd_T30 y215 x29_1).f1) x82_3).f1) x89_4).f0))) (fun _ hk => hk.2) (.int .i64 ((rd_T42 ((rd_T36 ((rd_T30 y215 x29_1).f1) x82_3).f1) x89_4).f1))) (fun _ hk => ⟨hk.1.1, hk.1.2⟩)⟩, ⟨by (with_reducible repeat (first | apply Kd.V_alloc | apply Kd.V_drewN | apply Kd.V_drew)); exact Kd.V_mono (Kd.V_far (p := ⟨gb234, 1, none⟩) (Kd.V_far (p := ⟨gb234, 0, none⟩) (Kd.V_mono HO_208000.out (fun k_ hk => (⟨hk, hk.2⟩ : _ ∧ k_ ≠ gb234))) (fun _ hk => hk.2) (.int .u32 ((rd_T42 ((rd_T36 ((rd_T30 y215 x29_1).f1) x82_3).f1) x89_4).f0))) (fun _ hk => hk.2) (.int .i64 ((rd_T42 ((rd_T36 ((rd_T30 y215 x29_1).f1) x82_3).f1) x89_4).f1))) (fun _ hk => ⟨hk.1.1.1, ⟨hk.1.1.2.1, ⟨hk.1.1.2.2.1, ⟨hk.1.1.2.1, ⟨hk.1.1.2.2.2.1, ⟨hk.1.1.2.2.2.2.1, ⟨hk.1.1.2.2.2.2.2.1, ⟨hk.1.1.2.2.2.2.2.2, hk.1.2⟩⟩⟩⟩⟩⟩⟩⟩)⟩, ⟨by (with_reducible repeat (first | apply Kd.V_alloc | apply Kd.V_drewN | apply Kd.V_drew)); exact Kd.V_mono (Kd.V_far (p := ⟨gb234, 1, none⟩) (Kd.V_far (p := ⟨gb234, 0, none⟩) (Kd.V_mono HO_208001.out (fun k_ hk => (⟨hk, hk.2⟩ : _ ∧ k_ ≠ gb234))) (fun _ hk => hk.2) (.int .u32 ((rd_T42 ((rd_T36 ((rd_T30 y215 x29_1).f1) x82_3).f1) x89_4).f0))) (fun _ hk => hk.2) (.int .i64 ((rd_T42 ((rd_T36 ((rd_T30 y215 x29_1).f1) x82_3).f1) x89_4).f1))) (fun _ hk => ⟨hk.1.1.1, ⟨hk.1.1.2.1, ⟨hk.1.1.2.2.1, ⟨hk.1.1.2.1, ⟨hk.1.1.2.2.2.1, ⟨hk.1.1.2.2.2.2.1, ⟨hk.1.1.2.2.2.2.2.1, ⟨hk.1.1.2.2.2.2.2.2, hk.1.2⟩⟩⟩⟩⟩⟩⟩⟩)⟩, ⟨bkq BK206⟩, ⟨bkq BK207⟩, ⟨bkq BK219⟩, ⟨bkq BK232⟩, ⟨bkp BK234⟩, ⟨by repeat (first | (with_reducible first | exact HB.out | apply below_alloc | apply pw_below_drewN | apply below_drew1 | refine below_set ?_ GE206.out | refine below_set ?_ GE207.out | refine below_set ?_ GE219.out | refine below_set ?_ GE232.out | refine below_set ?_ GE234.out) | exact HB.out)⟩, ⟨by repeat (first | (with_reducible first | exact HB2.out | exact Below.refl _ _ | apply below_alloc | apply pw_below_drewN | apply below_drew1 | refine below_set ?_ GE2_224.out | refine below_set ?_ GE2_228.out | refine below_set ?_ GE2_230.out | refine below_set ?_ GE2_232.out | refine below_set ?_ GE2_234.out) | exact HB2.out | exact Below.refl _ _)⟩⟩
                    case round =>
                     clear H'
                     try clear c1
                     try clear c2
                     try clear p2 p2
                     try clear q2 q2
                     try clear hx2
                     try clear c3
                     try clear c4
                     try clear c5
                     try clear c6
                     try clear p6 p6
                     try clear c7
                     try clear c8
                     try clear c9
                     try clear c10
                     try clear c14
                     try clear c16
                     try clear c16b0
                     try clear c17
                     try clear c17b0
                     try clear c18
                     try clear c18b0
                     try clear c21
                     try clear p21 p21
                     try clear q21 q21
                     try clear hx21
                     try clear c22
                     try clear p22 p22
                     try clear q22 q22
                     try clear hx22
                     try clear c23
                     try clear p23 p23
                     try clear q23 q23
                     try clear hx23
                     try clear c26
                     try clear c26b0
                     try clear c27
                     try clear c27b0
                     try clear c28
                     try clear c28b0
                     try clear c31
                     try clear c32
                     try clear c33
                     try clear c35
                     try clear c35b0
                     try clear c37
                     try clear c37b0
                     try clear c38
                     try clear c38b0
                     try clear c45
                     try clear c46
                     try clear c47
                     try clear c48
                     try clear c50
                     try clear c50b0
                     try clear c51
                     try clear c51b0
                     try clear c52
                     try clear c52b0
                     try clear c54
                     try clear c55
                     try clear c56
                     try clear c57
                     try clear c59
                     try clear c59b0
                     try clear c60
                     try clear c60b0
                     try clear c61
                     try clear c61b0
                     try clear c62
                     try clear c64
                     try clear p64 p64
                     try clear c65
                     try clear c66
                     try clear c67
                     try clear c68
                     try clear c71
                     try clear c72
                     try clear c73
                     try clear c74
                     try clear c75
                     try clear c77
                     try clear c78
                     try clear c79
                     try clear c80
                     try clear c82
                     try clear c83
                     try clear c84
                     try clear c86
                     try clear c86b0
                     try clear c87
                     try clear c87b0
                     try clear c88
                     try clear c88b0
                     try clear c90
                     try clear c91
                     try clear c92
                     try clear c94
                     try clear c94b0
                     try clear c95
                     try clear c95b0
                     try clear c96
                     try clear c96b0
                     try clear c98
                     try clear c99
                     try clear c100
                     try clear c101
                     try clear hcz102_0 hcz102_1 hfz102_0 hfz102_1
                     try clear hcz23_0 hcz23_1 hfz23_0 hfz23_1
                     try clear hcz34_0 hcz34_1 hfz34_0 hfz34_1
                     try clear hcz49_0 hcz49_1 hfz49_0 hfz49_1
                     try clear hcz58_0 hcz58_1 hcz58_2 hcz58_3 hcz58_4 hfz58_0 hfz58_1 hfz58_2 hfz58_3 hfz58_4
                     try clear hcz69_0 hcz69_1 hfz69_0 hfz69_1
                     try clear hcz76_0 hcz76_1 hfz76_0 hfz76_1
                     try clear hcz81_0 hcz81_1 hfz81_0 hfz81_1
                     try clear hcz85_0 hcz85_1 hfz85_0 hfz85_1
                     try clear hcz93_0 hcz93_1 hcz93_2 hcz93_3 hcz93_4 hfz93_0 hfz93_1 hfz93_2 hfz93_3 hfz93_4
                     try clear hx218_0
                     try clear hx218_1
                     try clear hx223_0
                     try clear hx223_1
                     try clear hx225_0
                     try clear hx225_1
                     try clear hx227_0
                     try clear hx227_1
                     try clear hx227_2
                     try clear hx227_3
                     try clear hx227_4
                     try clear hx229_0
                     try clear hx229_1
                     try clear hx231_0
                     try clear hx231_1
                     try clear hx231_2
                     try clear hx231_3
                     try clear hx231_4
                     try clear hx233_0
                     try clear hx233_1
                     try clear p218
                     try clear p223
                     try clear p225
                     try clear p227
                     try clear p229
                     try clear p231
                     try clear p233
                     try clear q218
                     try clear q223
                     try clear q225
                     try clear q227
                     try clear q229
                     try clear q231
                     try clear q233
                     obtain ⟨x19_5, x95_5, rfl, rfl, HA, HK5, HO_7, HO_27, HO_93, HO_208000, HO_208001, BK206, BK207, BK219, BK232, BK234, HB, HB2⟩ := hrel
                     cases gk with
                     | zero => exact absurd HA.out (by simp [maquettelaw13_LowerClasses.l6])
                     | succ k5 =>
                      have H := HA.out
                      clear HA
                      simp only [maquettelaw13_LowerClasses.l6] at H
                      by_cases c103 : x95_5 < (t220.length : Int)
                      ·rw [if_pos c103] at H
                       have c103b0 := decide_eq_true c103
                       clear c103
                       by_cases c104 : 0 ≤ x95_5
                       ·rw [if_pos c104] at H
                        have c104b0 := decide_eq_true c104
                        clear c104
                        by_cases c105 : x95_5 < (t220.length : Int)
                        ·rw [if_pos c105] at H
                         have c105b0 := decide_eq_true c105
                         clear c105
                         by_cases c106 : x19_5 = true
                         ·subst c106
                          have H1 : (maquettelaw13_LowerClasses.l6 k5 t220 true y215 (y215.length : Int) x29_1 ((rd_T30 y215 x29_1).f1) (((rd_T30 y215 x29_1).f1).length : Int) x82_3 ((rd_T36 ((rd_T30 y215 x29_1).f1) x82_3).f1) (((rd_T36 ((rd_T30 y215 x29_1).f1) x82_3).f1).length : Int) x89_4 t220 (t220.length : Int) (wrap64 (x95_5 + 1)) ((rd_T42 ((rd_T36 ((rd_T30 y215 x29_1).f1) x82_3).f1) x89_4).f0) ((rd_T42 ((rd_T36 ((rd_T30 y215 x29_1).f1) x82_3).f1) x89_4).f1)) = some r := by rw [if_pos rfl] at H; exact H
                          clear H
                          have H := H1
                          clear H1
                          have H' := Aside0.mk H
                          clear H
                          have p235 : 0 ≤ (x95_5 : Int) := of_decide_eq_true (by first | (with_reducible assumption) | assumption)
                          have q235 : x95_5 < (t220.length : Int) := of_decide_eq_true (by first | (with_reducible assumption) | assumption)
                          obtain ⟨ad235, e235, hx235_0, hx235_1⟩ := at_T42 (Kd.R_reads' HO_93.out).2.2 x95_5 p235 q235
                          cases e235
                          replace p235 := eq_true p235
                          replace q235 := eq_true q235
                          go_wp2_with (first | ((with_reducible refine gate_dst (N := 21) rfl ?_); refine bx 21 (cs := #[.int .u32 0, .int .i64 0]) (t := 42) (h := ?_); intro gb236 hg w107 hbox hb; have BK236 := Aside0.mk hbox; have GW236 : Aside0 (w.heap.size ≤ gb236) := bge hg; have GE236 : Aside0 (w.heap.size ≤ gb236) := bge hg; have GE2_236 : Aside0 (w24.heap.size ≤ gb236) := ⟨by have h2_ := HB2.out.size; have h3_ := hg; omega⟩; have NB206_236 := bne BK206 hg; have NB236_206 := bnf BK206 hg; have NB207_236 := bne BK207 hg; have NB236_207 := bnf BK207 hg; have NB219_236 := bne BK219 hg; have NB236_219 := bnf BK219 hg; have NB232_236 := bne BK232 hg; have NB236_232 := bnf BK232 hg; have NB234_236 := bne BK234 hg; have NB236_234 := bnf BK234 hg; replace HO_7 := Aside0.mk (Kd.R_below (Kd.R_elderB (kR HO_7) gb236 (Nat.le_of_eq hg.symm)) hb); replace HO_27 := Aside0.mk (Kd.N_below (Kd.N_elderB (kN HO_27) gb236 (Nat.le_of_eq hg.symm)) hb); replace HO_93 := Aside0.mk (Kd.R_below (Kd.R_elderB (kR HO_93) gb236 (Nat.le_of_eq hg.symm)) hb); replace HO_208000 := Aside0.mk (Kd.V_below (Kd.V_elderB (kV HO_208000) gb236 (Nat.le_of_eq hg.symm)) hb); replace HO_208001 := Aside0.mk (Kd.V_below (Kd.V_elderB (kV HO_208001) gb236 (Nat.le_of_eq hg.symm)) hb); replace BK206 := bkb BK206 hb; replace BK207 := bkb BK207 hb; replace BK219 := bkb BK219 hb; replace BK232 := bkb BK232 hb; replace BK234 := bkb BK234 hb; replace HB := bst hb; replace HB2 := Aside0.mk (b2t HB2.out hb); clear hb hbox hg; have hnb108 := NB236_206.out; have hnc108 := NB206_236.out; have hnb109 := NB236_207.out; have hnc109 := NB207_236.out; have hnb110 := NB236_219.out; have hnc110 := NB219_236.out; have hnb111 := NB236_232.out; have hnc111 := NB232_236.out; have hnb112 := NB236_234.out; have hnc112 := NB234_236.out; obtain ⟨hcz113_0, hcz113_1, hfz113_0, hfz113_1⟩ := bc2 BK236))
                          go_roundg k5
                          case measure => have := HK1.out; have := HK2.out; have := HK3.out; have := HK4.out; have := HK5.out; omega
                          case rel => exact ⟨(true), (wrap64 (x95_5 + 1)), (by first | rfl | (simp; done) | (simp [*]; done)), (by first | rfl | (simp; done) | (simp [*]; done)), H', ⟨by have := HK1.out; have := HK2.out; have := HK3.out; have := HK4.out; have := HK5.out; omega⟩, ⟨by (with_reducible repeat (first | apply Kd.R_alloc | apply Kd.R_drewN | apply Kd.R_drew)); exact Kd.R_mono (Kd.R_far (p := ⟨gb236, 1, none⟩) (Kd.R_far (p := ⟨gb236, 0, none⟩) (Kd.R_mono HO_7.out (fun k_ hk => (⟨hk, hk.2⟩ : _ ∧ k_ ≠ gb236))) (fun _ hk => hk.2) (.int .u32 ((rd_T42 t220 x95_5).f0))) (fun _ hk => hk.2) (.int .i64 ((rd_T42 t220 x95_5).f1))) (fun _ hk => ⟨hk.1.1.1, hk.1.1.2⟩)⟩, ⟨by (with_reducible repeat (first | apply Kd.N_alloc | apply Kd.N_drewN | apply Kd.N_drew)); exact Kd.N_mono (Kd.N_far (p := ⟨gb236, 1, none⟩) (Kd.N_far (p := ⟨gb236, 0, none⟩) (Kd.N_mono HO_27.out (fun k_ hk => (⟨hk, hk.2⟩ : _ ∧ k_ ≠ gb236))) (fun _ hk => hk.2) (.int .u32 ((rd_T42 t220 x95_5).f0))) (fun _ hk => hk.2) (.int .i64 ((rd_T42 t220 x95_5).f1))) (fun _ hk => ⟨hk.1.1.1, ⟨hk.1.1.2.1, ⟨hk.1.1.2.2.1, ⟨hk.1.1.2.2.2.1, ⟨hk.1.1.2.2.2.2.1, ⟨hk.1.1.2.2.2.2.2.1, ⟨hk.1.1.2.2.2.2.2.2.1, hk.1.1.2.2.2.2.2.2.2⟩⟩⟩⟩⟩⟩⟩)⟩, ⟨by (with_reducible repeat (first | apply Kd.R_alloc | apply Kd.R_drewN | apply Kd.R_drew)); exact Kd.R_mono (Kd.R_far (p := ⟨gb236, 1, none⟩) (Kd.R_far (p := ⟨gb236, 0, none⟩) (Kd.R_mono HO_93.out (fun k_ hk => (⟨hk, hk.2⟩ : _ ∧ k_ ≠ gb236))) (fun _ hk => hk.2) (.int .u32 ((rd_T42 t220 x95_5).f0))) (fun _ hk => hk.2) (.int .i64 ((rd_T42 t220 x95_5).f1))) (fun _ hk => ⟨hk.1.1.1, hk.1.1.2⟩)⟩, ⟨by (with_reducible repeat (first | apply Kd.V_alloc | apply Kd.V_drewN | apply Kd.V_drew)); exact Kd.V_mono (Kd.V_far (p := ⟨gb236, 1, none⟩) (Kd.V_far (p := ⟨gb236, 0, none⟩) (Kd.V_mono HO_208000.out (fun k_ hk => (⟨hk, hk.2⟩ : _ ∧ k_ ≠ gb236))) (fun _ hk => hk.2) (.int .u32 ((rd_T42 t220 x95_5).f0))) (fun _ hk => hk.2) (.int .i64 ((rd_T42 t220 x95_5).f1))) (fun _ hk => ⟨hk.1.1.1, ⟨hk.1.1.2.1, ⟨hk.1.1.2.2.1, ⟨hk.1.1.2.2.2.1, ⟨hk.1.1.2.2.2.2.1, ⟨hk.1.1.2.2.2.2.2.1, ⟨hk.1.1.2.2.2.2.2.2.1, ⟨hk.1.1.2.2.2.2.2.2.2.1, hk.1.1.2.2.2.2.2.2.2.2⟩⟩⟩⟩⟩⟩⟩⟩)⟩, ⟨by (with_reducible repeat (first | apply Kd.V_alloc | apply Kd.V_drewN | apply Kd.V_drew)); exact Kd.V_mono (Kd.V_far (p := ⟨gb236, 1, none⟩) (Kd.V_far (p := ⟨gb236, 0, none⟩) (Kd.V_mono HO_208001.out (fun k_ hk => (⟨hk, hk.2⟩ : _ ∧ k_ ≠ gb236))) (fun _ hk => hk.2) (.int .u32 ((rd_T42 t220 x95_5).f0))) (fun _ hk => hk.2) (.int .i64 ((rd_T42 t220 x95_5).f1))) (fun _ hk => ⟨hk.1.1.1, ⟨hk.1.1.2.1, ⟨hk.1.1.2.2.1, ⟨hk.1.1.2.2.2.1, ⟨hk.1.1.2.2.2.2.1, ⟨hk.1.1.2.2.2.2.2.1, ⟨hk.1.1.2.2.2.2.2.2.1, ⟨hk.1.1.2.2.2.2.2.2.2.1, hk.1.1.2.2.2.2.2.2.2.2⟩⟩⟩⟩⟩⟩⟩⟩)⟩, ⟨bkq BK206⟩, ⟨bkq BK207⟩, ⟨bkq BK219⟩, ⟨bkq BK232⟩, ⟨bkq BK234⟩, ⟨by repeat (first | (with_reducible first | exact HB.out | apply below_alloc | apply pw_below_drewN | apply below_drew1 | refine below_set ?_ GE206.out | refine below_set ?_ GE207.out | refine below_set ?_ GE219.out | refine below_set ?_ GE232.out | refine below_set ?_ GE234.out | refine below_set ?_ GE236.out) | exact HB.out)⟩, ⟨by repeat (first | (with_reducible first | exact HB2.out | exact Below.refl _ _ | apply below_alloc | apply pw_below_drewN | apply below_drew1 | refine below_set ?_ GE2_224.out | refine below_set ?_ GE2_228.out | refine below_set ?_ GE2_230.out | refine below_set ?_ GE2_232.out | refine below_set ?_ GE2_234.out | refine below_set ?_ GE2_236.out) | exact HB2.out | exact Below.refl _ _)⟩⟩
                         ·replace c106 := Bool.eq_false_iff.mpr c106
                          subst c106
                          have H1 : (maquettelaw13_LowerClasses.l6 k5 t220 (((rd_T42 t220 x95_5).f0) == ((rd_T42 ((rd_T36 ((rd_T30 y215 x29_1).f1) x82_3).f1) x89_4).f0) && (((rd_T42 t220 x95_5).f1) == ((rd_T42 ((rd_T36 ((rd_T30 y215 x29_1).f1) x82_3).f1) x89_4).f1))) y215 (y215.length : Int) x29_1 ((rd_T30 y215 x29_1).f1) (((rd_T30 y215 x29_1).f1).length : Int) x82_3 ((rd_T36 ((rd_T30 y215 x29_1).f1) x82_3).f1) (((rd_T36 ((rd_T30 y215 x29_1).f1) x82_3).f1).length : Int) x89_4 t220 (t220.length : Int) (wrap64 (x95_5 + 1)) ((rd_T42 ((rd_T36 ((rd_T30 y215 x29_1).f1) x82_3).f1) x89_4).f0) ((rd_T42 ((rd_T36 ((rd_T30 y215 x29_1).f1) x82_3).f1) x89_4).f1)) = some r := by rw [if_neg (show ¬ (false = true) by decide)] at H; exact H
                          clear H
                          have H := H1
                          clear H1
                          have H' := Aside0.mk H
                          clear H
                          have p235 : 0 ≤ (x95_5 : Int) := of_decide_eq_true (by first | (with_reducible assumption) | assumption)
                          have q235 : x95_5 < (t220.length : Int) := of_decide_eq_true (by first | (with_reducible assumption) | assumption)
                          obtain ⟨ad235, e235, hx235_0, hx235_1⟩ := at_T42 (Kd.R_reads' HO_93.out).2.2 x95_5 p235 q235
                          cases e235
                          replace p235 := eq_true p235
                          replace q235 := eq_true q235
                          go_wp2_with (first | ((with_reducible refine gate_dst (N := 21) rfl ?_); refine bx 21 (cs := #[.int .u32 0, .int .i64 0]) (t := 42) (h := ?_); intro gb236 hg w114 hbox hb; have BK236 := Aside0.mk hbox; have GW236 : Aside0 (w.heap.size ≤ gb236) := bge hg; have GE236 : Aside0 (w.heap.size ≤ gb236) := bge hg; have GE2_236 : Aside0 (w24.heap.size ≤ gb236) := ⟨by have h2_ := HB2.out.size; have h3_ := hg; omega⟩; have NB206_236 := bne BK206 hg; have NB236_206 := bnf BK206 hg; have NB207_236 := bne BK207 hg; have NB236_207 := bnf BK207 hg; have NB219_236 := bne BK219 hg; have NB236_219 := bnf BK219 hg; have NB232_236 := bne BK232 hg; have NB236_232 := bnf BK232 hg; have NB234_236 := bne BK234 hg; have NB236_234 := bnf BK234 hg; replace HO_7 := Aside0.mk (Kd.R_below (Kd.R_elderB (kR HO_7) gb236 (Nat.le_of_eq hg.symm)) hb); replace HO_27 := Aside0.mk (Kd.N_below (Kd.N_elderB (kN HO_27) gb236 (Nat.le_of_eq hg.symm)) hb); replace HO_93 := Aside0.mk (Kd.R_below (Kd.R_elderB (kR HO_93) gb236 (Nat.le_of_eq hg.symm)) hb); replace HO_208000 := Aside0.mk (Kd.V_below (Kd.V_elderB (kV HO_208000) gb236 (Nat.le_of_eq hg.symm)) hb); replace HO_208001 := Aside0.mk (Kd.V_below (Kd.V_elderB (kV HO_208001) gb236 (Nat.le_of_eq hg.symm)) hb); replace BK206 := bkb BK206 hb; replace BK207 := bkb BK207 hb; replace BK219 := bkb BK219 hb; replace BK232 := bkb BK232 hb; replace BK234 := bkb BK234 hb; replace HB := bst hb; replace HB2 := Aside0.mk (b2t HB2.out hb); clear hb hbox hg; have hnb115 := NB236_206.out; have hnc115 := NB206_236.out; have hnb116 := NB236_207.out; have hnc116 := NB207_236.out; have hnb117 := NB236_219.out; have hnc117 := NB219_236.out; have hnb118 := NB236_232.out; have hnc118 := NB232_236.out; have hnb119 := NB236_234.out; have hnc119 := NB234_236.out; obtain ⟨hcz120_0, hcz120_1, hfz120_0, hfz120_1⟩ := bc2 BK236; have hnb121 := NB234_206.out; have hnc121 := NB206_234.out; have hnb122 := NB234_207.out; have hnc122 := NB207_234.out; have hnb123 := NB234_219.out; have hnc123 := NB219_234.out; have hnb124 := NB234_232.out; have hnc124 := NB232_234.out; obtain ⟨hcz125_0, hcz125_1, hfz125_0, hfz125_1⟩ := bc2 BK234))
                          go_roundg k5
                          case measure => have := HK1.out; have := HK2.out; have := HK3.out; have := HK4.out; have := HK5.out; omega
                          case rel => exact ⟨((((rd_T42 t220 x95_5).f0) == ((rd_T42 ((rd_T36 ((rd_T30 y215 x29_1).f1) x82_3).f1) x89_4).f0) && (((rd_T42 t220 x95_5).f1) == ((rd_T42 ((rd_T36 ((rd_T30 y215 x29_1).f1) x82_3).f1) x89_4).f1)))), (wrap64 (x95_5 + 1)), (by first | rfl | (simp; done) | (simp [*]; done)), (by first | rfl | (simp; done) | (simp [*]; done)), H', ⟨by have := HK1.out; have := HK2.out; have := HK3.out; have := HK4.out; have := HK5.out; omega⟩, ⟨by (with_reducible repeat (first | apply Kd.R_alloc | apply Kd.R_drewN | apply Kd.R_drew)); exact Kd.R_mono (Kd.R_far (p := ⟨gb236, 1, none⟩) (Kd.R_far (p := ⟨gb236, 0, none⟩) (Kd.R_mono HO_7.out (fun k_ hk => (⟨hk, hk.2⟩ : _ ∧ k_ ≠ gb236))) (fun _ hk => hk.2) (.int .u32 ((rd_T42 t220 x95_5).f0))) (fun _ hk => hk.2) (.int .i64 ((rd_T42 t220 x95_5).f1))) (fun _ hk => ⟨hk.1.1.1, hk.1.1.2⟩)⟩, ⟨by (with_reducible repeat (first | apply Kd.N_alloc | apply Kd.N_drewN | apply Kd.N_drew)); exact Kd.N_mono (Kd.N_far (p := ⟨gb236, 1, none⟩) (Kd.N_far (p := ⟨gb236, 0, none⟩) (Kd.N_mono HO_27.out (fun k_ hk => (⟨hk, hk.2⟩ : _ ∧ k_ ≠ gb236))) (fun _ hk => hk.2) (.int .u32 ((rd_T42 t220 x95_5).f0))) (fun _ hk => hk.2) (.int .i64 ((rd_T42 t220 x95_5).f1))) (fun _ hk => ⟨hk.1.1.1, ⟨hk.1.1.2.1, ⟨hk.1.1.2.2.1, ⟨hk.1.1.2.2.2.1, ⟨hk.1.1.2.2.2.2.1, ⟨hk.1.1.2.2.2.2.2.1, ⟨hk.1.1.2.2.2.2.2.2.1, hk.1.1.2.2.2.2.2.2.2⟩⟩⟩⟩⟩⟩⟩)⟩, ⟨by (with_reducible repeat (first | apply Kd.R_alloc | apply Kd.R_drewN | apply Kd.R_drew)); exact Kd.R_mono (Kd.R_far (p := ⟨gb236, 1, none⟩) (Kd.R_far (p := ⟨gb236, 0, none⟩) (Kd.R_mono HO_93.out (fun k_ hk => (⟨hk, hk.2⟩ : _ ∧ k_ ≠ gb236))) (fun _ hk => hk.2) (.int .u32 ((rd_T42 t220 x95_5).f0))) (fun _ hk => hk.2) (.int .i64 ((rd_T42 t220 x95_5).f1))) (fun _ hk => ⟨hk.1.1.1, hk.1.1.2⟩)⟩, ⟨by (with_reducible repeat (first | apply Kd.V_alloc | apply Kd.V_drewN | apply Kd.V_drew)); exact Kd.V_mono (Kd.V_far (p := ⟨gb236, 1, none⟩) (Kd.V_far (p := ⟨gb236, 0, none⟩) (Kd.V_mono HO_208000.out (fun k_ hk => (⟨hk, hk.2⟩ : _ ∧ k_ ≠ gb236))) (fun _ hk => hk.2) (.int .u32 ((rd_T42 t220 x95_5).f0))) (fun _ hk => hk.2) (.int .i64 ((rd_T42 t220 x95_5).f1))) (fun _ hk => ⟨hk.1.1.1, ⟨hk.1.1.2.1, ⟨hk.1.1.2.2.1, ⟨hk.1.1.2.2.2.1, ⟨hk.1.1.2.2.2.2.1, ⟨hk.1.1.2.2.2.2.2.1, ⟨hk.1.1.2.2.2.2.2.2.1, ⟨hk.1.1.2.2.2.2.2.2.2.1, hk.1.1.2.2.2.2.2.2.2.2⟩⟩⟩⟩⟩⟩⟩⟩)⟩, ⟨by (with_reducible repeat (first | apply Kd.V_alloc | apply Kd.V_drewN | apply Kd.V_drew)); exact Kd.V_mono (Kd.V_far (p := ⟨gb236, 1, none⟩) (Kd.V_far (p := ⟨gb236, 0, none⟩) (Kd.V_mono HO_208001.out (fun k_ hk => (⟨hk, hk.2⟩ : _ ∧ k_ ≠ gb236))) (fun _ hk => hk.2) (.int .u32 ((rd_T42 t220 x95_5).f0))) (fun _ hk => hk.2) (.int .i64 ((rd_T42 t220 x95_5).f1))) (fun _ hk => ⟨hk.1.1.1, ⟨hk.1.1.2.1, ⟨hk.1.1.2.2.1, ⟨hk.1.1.2.2.2.1, ⟨hk.1.1.2.2.2.2.1, ⟨hk.1.1.2.2.2.2.2.1, ⟨hk.1.1.2.2.2.2.2.2.1, ⟨hk.1.1.2.2.2.2.2.2.2.1, hk.1.1.2.2.2.2.2.2.2.2⟩⟩⟩⟩⟩⟩⟩⟩)⟩, ⟨bkq BK206⟩, ⟨bkq BK207⟩, ⟨bkq BK219⟩, ⟨bkq BK232⟩, ⟨bkq BK234⟩, ⟨by repeat (first | (with_reducible first | exact HB.out | apply below_alloc | apply pw_below_drewN | apply below_drew1 | refine below_set ?_ GE206.out | refine below_set ?_ GE207.out | refine below_set ?_ GE219.out | refine below_set ?_ GE232.out | refine below_set ?_ GE234.out | refine below_set ?_ GE236.out) | exact HB.out)⟩, ⟨by repeat (first | (with_reducible first | exact HB2.out | exact Below.refl _ _ | apply below_alloc | apply pw_below_drewN | apply below_drew1 | refine below_set ?_ GE2_224.out | refine below_set ?_ GE2_228.out | refine below_set ?_ GE2_230.out | refine below_set ?_ GE2_232.out | refine below_set ?_ GE2_234.out | refine below_set ?_ GE2_236.out) | exact HB2.out | exact Below.refl _ _)⟩⟩
                        ·rw [if_neg c105] at H
                         exact absurd H (by simp)
                       ·rw [if_neg c104] at H
                        exact absurd H (by simp)
                      ·rw [if_neg c103] at H
                       have c103b0 := decide_eq_false c103
                       clear c103
                       by_cases c126 : x19_5 = true
                       ·subst c126
                        have H1 : (maquettelaw13_LowerClasses.l5 k5 t220 y215 (y215.length : Int) x29_1 ((rd_T30 y215 x29_1).f1) (((rd_T30 y215 x29_1).f1).length : Int) x82_3 ((rd_T36 ((rd_T30 y215 x29_1).f1) x82_3).f1) (((rd_T36 ((rd_T30 y215 x29_1).f1) x82_3).f1).length : Int) (wrap64 (x89_4 + 1))) = some r := by rw [if_pos rfl] at H; exact H
                        clear H
                        have H := H1
                        clear H1
                        have H' := Aside0.mk H
                        clear H
                        go_wp2
                        go_roundg k5
                        case measure => have := HK1.out; have := HK2.out; have := HK3.out; have := HK4.out; have := HK5.out; omega
                        case rel => exact ⟨(wrap64 (x89_4 + 1)), (by first | rfl | (simp; done) | (simp [*]; done)), H', ⟨by have := HK1.out; have := HK2.out; have := HK3.out; have := HK4.out; have := HK5.out; omega⟩, ⟨by (with_reducible repeat (first | apply Kd.R_alloc | apply Kd.R_drewN | apply Kd.R_drew)); exact Kd.R_mono HO_7.out (fun _ hk => hk.1)⟩, ⟨by (with_reducible repeat (first | apply Kd.N_alloc | apply Kd.N_drewN | apply Kd.N_drew)); exact Kd.N_mono HO_27.out (fun _ hk => ⟨hk.1, ⟨hk.2.1, ⟨hk.2.2.2.1, ⟨hk.2.2.2.2.1, ⟨hk.2.2.2.2.2.1, hk.2.2.2.2.2.2.1⟩⟩⟩⟩⟩)⟩, ⟨by (with_reducible repeat (first | apply Kd.V_alloc | apply Kd.V_drewN | apply Kd.V_drew)); exact Kd.V_mono HO_208000.out (fun _ hk => ⟨hk.1, ⟨hk.2.1, ⟨hk.2.2.1, ⟨hk.2.2.2.2.1, ⟨hk.2.2.2.2.2.1, ⟨hk.2.2.2.2.2.2.1, hk.2.2.2.2.2.2.2.1⟩⟩⟩⟩⟩⟩)⟩, ⟨by (with_reducible repeat (first | apply Kd.V_alloc | apply Kd.V_drewN | apply Kd.V_drew)); exact Kd.V_mono HO_208001.out (fun _ hk => ⟨hk.1, ⟨hk.2.1, ⟨hk.2.2.1, ⟨hk.2.2.2.2.1, ⟨hk.2.2.2.2.2.1, ⟨hk.2.2.2.2.2.2.1, hk.2.2.2.2.2.2.2.1⟩⟩⟩⟩⟩⟩)⟩, ⟨bkq BK206⟩, ⟨bkq BK207⟩, ⟨bkq BK219⟩, ⟨bkq BK232⟩, ⟨by repeat (first | (with_reducible first | exact HB.out | apply below_alloc | apply pw_below_drewN | apply below_drew1 | refine below_set ?_ GE206.out | refine below_set ?_ GE207.out | refine below_set ?_ GE219.out | refine below_set ?_ GE232.out | refine below_set ?_ GE234.out) | exact HB.out)⟩, ⟨by repeat (first | (with_reducible first | exact HB2.out | exact Below.refl _ _ | apply below_alloc | apply pw_below_drewN | apply below_drew1 | refine below_set ?_ GE2_224.out | refine below_set ?_ GE2_228.out | refine below_set ?_ GE2_230.out | refine below_set ?_ GE2_232.out | refine below_set ?_ GE2_234.out | refine below_set ?_ GE2_236.out) | exact HB2.out | exact Below.refl _ _)⟩⟩
                       ·replace c126 := Bool.eq_false_iff.mpr c126
                        subst c126
                        have H1 : (some false) = some r := by rw [if_neg (show ¬ (false = true) by decide)] at H; exact H
                        clear H
                        have H := H1
                        clear H1
                        obtain rfl := Option.some.inj H
                        go_wp2
                        go_ret
                        exact ⟨by first | rfl | (simp [errW_none, errW_some] <;> rfl) | (simp [*, errW_none, errW_some] <;> rfl), by repeat (first | (with_reducible first | exact HB.out | apply below_alloc | apply pw_below_drewN | apply below_drew1 | refine below_set ?_ GE206.out | refine below_set ?_ GE207.out | refine below_set ?_ GE219.out | refine below_set ?_ GE232.out | refine below_set ?_ GE234.out) | exact HB.out)⟩
                   ·rw [if_neg c96] at H
                    exact absurd H (by simp)
                  ·rw [if_neg c95] at H
                   exact absurd H (by simp)
                 ·rw [if_neg c94] at H
                  have c94b0 := decide_eq_false c94
                  clear c94
                  have H' := Aside0.mk H
                  clear H
                  go_wp2
                  go_roundg k4
                  case measure => have := HK1.out; have := HK2.out; have := HK3.out; have := HK4.out; omega
                  case rel => exact ⟨(wrap64 (x82_3 + 1)), (by first | rfl | (simp; done) | (simp [*]; done)), H', ⟨by have := HK1.out; have := HK2.out; have := HK3.out; have := HK4.out; omega⟩, ⟨by (with_reducible repeat (first | apply Kd.R_alloc | apply Kd.R_drewN | apply Kd.R_drew)); exact HO_7.out⟩, ⟨by (with_reducible repeat (first | apply Kd.N_alloc | apply Kd.N_drewN | apply Kd.N_drew)); exact Kd.N_mono HO_27.out (fun _ hk => ⟨hk.1, ⟨hk.2.1, ⟨hk.2.2.1, ⟨hk.2.2.2.1, hk.2.2.2.2.1⟩⟩⟩⟩)⟩, ⟨by (with_reducible repeat (first | apply Kd.V_alloc | apply Kd.V_drewN | apply Kd.V_drew)); exact Kd.V_mono HO_208000.out (fun _ hk => ⟨hk.1, ⟨hk.2.1, ⟨hk.2.2.1, ⟨hk.2.2.2.1, ⟨hk.2.2.2.2.1, hk.2.2.2.2.2.1⟩⟩⟩⟩⟩)⟩, ⟨by (with_reducible repeat (first | apply Kd.V_alloc | apply Kd.V_drewN | apply Kd.V_drew)); exact Kd.V_mono HO_208001.out (fun _ hk => ⟨hk.1, ⟨hk.2.1, ⟨hk.2.2.1, ⟨hk.2.2.2.1, ⟨hk.2.2.2.2.1, hk.2.2.2.2.2.1⟩⟩⟩⟩⟩)⟩, ⟨bkq BK206⟩, ⟨bkq BK207⟩, ⟨bkq BK219⟩, ⟨by repeat (first | (with_reducible first | exact HB.out | apply below_alloc | apply pw_below_drewN | apply below_drew1 | refine below_set ?_ GE206.out | refine below_set ?_ GE207.out | refine below_set ?_ GE219.out | refine below_set ?_ GE232.out) | exact HB.out)⟩, ⟨by repeat (first | (with_reducible first | exact HB2.out | exact Below.refl _ _ | apply below_alloc | apply pw_below_drewN | apply below_drew1 | refine below_set ?_ GE2_224.out | refine below_set ?_ GE2_228.out | refine below_set ?_ GE2_230.out | refine below_set ?_ GE2_232.out | refine below_set ?_ GE2_234.out | refine below_set ?_ GE2_236.out) | exact HB2.out | exact Below.refl _ _)⟩⟩
              ·rw [if_neg c88] at H
               exact absurd H (by simp)
             ·rw [if_neg c87] at H
              exact absurd H (by simp)
            ·rw [if_neg c86] at H
             have c86b0 := decide_eq_false c86
             clear c86
             have H' := Aside0.mk H
             clear H
             go_wp2
             go_roundg k3
             case measure => have := HK1.out; have := HK2.out; have := HK3.out; omega
             case rel => exact ⟨(wrap64 (x29_1 + 1)), (by first | rfl | (simp; done) | (simp [*]; done)), H', ⟨by have := HK1.out; have := HK2.out; have := HK3.out; omega⟩, ⟨by (with_reducible repeat (first | apply Kd.N_alloc | apply Kd.N_drewN | apply Kd.N_drew)); exact Kd.N_mono HO_27.out (fun _ hk => ⟨hk.1, ⟨hk.2.2.1, hk.2.2.2.1⟩⟩)⟩, ⟨by (with_reducible repeat (first | apply Kd.V_alloc | apply Kd.V_drewN | apply Kd.V_drew)); exact Kd.V_mono HO_208000.out (fun _ hk => ⟨hk.1, ⟨hk.2.2.1, ⟨hk.2.2.2.1, hk.2.2.2.2.1⟩⟩⟩)⟩, ⟨by (with_reducible repeat (first | apply Kd.V_alloc | apply Kd.V_drewN | apply Kd.V_drew)); exact Kd.V_mono HO_208001.out (fun _ hk => ⟨hk.1, ⟨hk.2.2.1, ⟨hk.2.2.2.1, hk.2.2.2.2.1⟩⟩⟩)⟩, ⟨bkq BK206⟩, ⟨bkq BK207⟩, ⟨by repeat (first | (with_reducible first | exact HB.out | apply below_alloc | apply pw_below_drewN | apply below_drew1 | refine below_set ?_ GE206.out | refine below_set ?_ GE207.out | refine below_set ?_ GE219.out) | exact HB.out)⟩⟩
      ·rw [if_neg c18] at H
       exact absurd H (by simp)
     ·rw [if_neg c17] at H
      exact absurd H (by simp)
    ·rw [if_neg c16] at H
     have c16b0 := decide_eq_false c16
     clear c16
     obtain rfl := Option.some.inj H
     go_wp2
     go_ret
     exact ⟨by first | rfl | (simp [errW_none, errW_some] <;> rfl) | (simp [*, errW_none, errW_some] <;> rfl), by repeat (first | (with_reducible first | exact HB.out | apply below_alloc | apply pw_below_drewN | apply below_drew1 | refine below_set ?_ GE206.out | refine below_set ?_ GE207.out) | exact HB.out)⟩
 ·replace c4 := Bool.eq_false_iff.mpr c4
  subst c4
  have H1 : (some false) = some r := by rw [if_neg (show ¬ (false = true) by decide)] at H; exact H
  clear H
  have H := H1
  clear H1
  obtain rfl := Option.some.inj H
  go_enter Try.func5, Try.ntmps5
  go_wp2_with (first | ((with_reducible refine gate_dst (N := 2) rfl ?_); refine bx 2 (cs := #[.int .u8 a0_0, .slice A0_1 l0_1.length c0_1, .slice A0_2 l0_2.length c0_2, .slice A0_3 l0_3.length c0_3, .slice A0_4 l0_4.length c0_4, .slice A0_5 l0_5.length c0_5]) (t := 25) (h := ?_); intro gb206 hg w127 hbox hb; have BK206 := Aside0.mk hbox; have GW206 : Aside0 (w.heap.size ≤ gb206) := bge hg; have GE206 : Aside0 (w.heap.size ≤ gb206) := bge hg; replace HO1_0 := Aside0.mk (Kd.V_below (Kd.V_elderB (kV HO1_0) gb206 (Nat.le_of_eq hg.symm)) hb); replace HO1_1 := Aside0.mk (Kd.V_below (Kd.V_elderB (kV HO1_1) gb206 (Nat.le_of_eq hg.symm)) hb); replace HB := bst hb; clear hb hbox hg) | ((with_reducible refine gate_dst (N := 3) rfl ?_); refine bx 3 (cs := #[.slice A1_0 l1_0.length c1_0, .slice A1_1 l1_1.length c1_1]) (t := 30) (h := ?_); intro gb207 hg w128 hbox hb; have BK207 := Aside0.mk hbox; have GW207 : Aside0 (w.heap.size ≤ gb207) := bge hg; have GE207 : Aside0 (w.heap.size ≤ gb207) := bge hg; have NB206_207 := bne BK206 hg; have NB207_206 := bnf BK206 hg; replace HO1_0 := Aside0.mk (Kd.V_below (Kd.V_elderB (kV HO1_0) gb207 (Nat.le_of_eq hg.symm)) hb); replace HO1_1 := Aside0.mk (Kd.V_below (Kd.V_elderB (kV HO1_1) gb207 (Nat.le_of_eq hg.symm)) hb); replace BK206 := bkb BK206 hb; replace HB := bst hb; clear hb hbox hg) | ((with_reducible refine gate_dst (N := 22) rfl ?_); refine gl (some 22) Try.func7 #[] ?_; (with_reducible refine (maquettelaw13_awake.calls  false _ A3.out).mono ?_); rintro e w129 ⟨rfl, hb⟩; refine ⟨_, rfl, ?_⟩; replace HO1_0 := Aside0.mk (Kd.V_below (kV HO1_0) hb); replace HO1_1 := Aside0.mk (Kd.V_below (kV HO1_1) hb); replace BK206 := bkb BK206 hb; replace BK207 := bkb BK207 hb; replace HB := bst hb; (try clear hb); (try clear hb2); (try clear hk); (try clear hi)))
  go_ret
  exact ⟨by first | rfl | (simp [errW_none, errW_some] <;> rfl) | (simp [*, errW_none, errW_some] <;> rfl), by repeat (first | (with_reducible first | exact HB.out | apply below_alloc | apply pw_below_drewN | apply below_drew1 | refine below_set ?_ GE206.out | refine below_set ?_ GE207.out) | exact HB.out)⟩

end Go.Proofs.Ytpalofndmbmiiaa.PLow
