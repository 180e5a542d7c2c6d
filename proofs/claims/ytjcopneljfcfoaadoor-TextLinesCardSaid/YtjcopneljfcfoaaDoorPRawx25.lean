-- Written by wip/xprint.py of this work: the printer of the kit, with contracts of this work beside it, shortened.
import Derived.Test.YtjcopneljfcfoaaDoorShort
import Derived.Test.YtjcopneljfcfoaaDoorPRawx0
import Derived.Test.YtjcopneljfcfoaaDoorPRawx19
import Derived.Test.YtjcopneljfcfoaaDoorPRawx21
import Derived.Test.YtjcopneljfcfoaaDoorJ4
import Derived.Test.YtjcopneljfcfoaaDoorPRawx24
namespace Go.Proofs.YtjcopneljfcfoaaDoor.PRaw
open Go.RowKit Go.Proofs.YtjcopneljfcfoaaDoor.Short Go.Proofs.YtjcopneljfcfoaaDoorW.PrintWords Go.Proofs.YtjcopneljfcfoaaDoorW.PrintLast Go.Proofs.YtjcopneljfcfoaaDoorW.PrintMore
attribute [local go_sem] max2_int min2_int max_two min_two max_three min_three max_four min_four   -- for this text's walks alone
set_option linter.unusedVariables false
set_option linter.unusedSimpArgs false

/-! ### maquettelaw07_Shape_Config: function 9 -/
mutual
def maquettelaw07_Shape_Config.l0 : Nat → List (List (S74)) → Int → Int → Int → List Int → List (List (S74)) → List Int → List Int → List Int → List (S36) → Option ((List (S36)) × (List (S46)))
 | 0, _, _, _, _, _, _, _, _, _, _ => none
 | k + 1, x15, x16, x17, x199000, x199001, x199002, x199003, x199004, x199005, x201000 => if x17 < x16 then (if 0 ≤ x17 then (if x17 < (x15.length : Int) then (if x17 < 4 then (if 1 + (Utf8.encode (wrap32 (wrap64 (97 + x17)))).size ≤ 9223372036854775807 then ((maquettelaw07_Clauses.f k (rd_L20 x15 x17)).bind fun t202 => (if x201000.length < 2932031007402 then (maquettelaw07_Shape_Config.l0 k x15 x16 (wrap64 (x17 + 1)) x199000 x199001 x199002 x199003 x199004 x199005 (x201000 ++ [(⟨(⟨#[109]⟩ : ByteArray) ++ (Utf8.encode (wrap32 (wrap64 (97 + x17)))), t202, 0⟩ : S36)])) else (none))) else (none)) else (maquettelaw07_Shape_Config.l0 k x15 x16 (wrap64 (x17 + 1)) x199000 x199001 x199002 x199003 x199004 x199005 x201000)) else (none)) else (none)) else (maquettelaw07_Shape_Config.l1 k (wrap64 (Int.tmod x199000 8)) 0 x199000 x199001 x199002 x199003 x199004 x199005 x201000 ([] : List (S46)))
def maquettelaw07_Shape_Config.l1 : Nat → Int → Int → Int → List Int → List (List (S74)) → List Int → List Int → List Int → List (S36) → List (S46) → Option ((List (S36)) × (List (S46)))
 | 0, _, _, _, _, _, _, _, _, _, _ => none
 | k + 1, x6, x7, x199000, x199001, x199002, x199003, x199004, x199005, x201000, x201001 => if x7 < x6 then ((maquettelaw07_Name.f x7).bind fun t208 => ((maquettelaw07_number.f x199004 x7).bind fun t210 => (if x7 = 0 then (maquettelaw07_Shape_Config.j2 k x6 x7 t210 true x199000 x199001 x199002 x199003 x199004 x199005 x201000 x201001 t208 0) else (maquettelaw07_Shape_Config.j2 k x6 x7 t210 ((Int.tmod t210 4) == 0) x199000 x199001 x199002 x199003 x199004 x199005 x201000 x201001 t208 0)))) else (some (x201000, x201001))
def maquettelaw07_Shape_Config.j2 : Nat → Int → Int → Int → Bool → Int → List Int → List (List (S74)) → List Int → List Int → List Int → List (S36) → List (S46) → ByteArray → Int → Option ((List (S36)) × (List (S46)))
 | 0, _, _, _, _, _, _, _, _, _, _, _, _, _, _ => none
 | k + 1, x6, x7, x9, x60, x199000, x199001, x199002, x199003, x199004, x199005, x201000, x201001, x210000, x210004 => if x60 = true then ((maquettelaw05_Make.f k ((x9) % 256)).bind fun bt211 => (if ([] : List (S39)).length < 8796093022208 then (maquettelaw07_Shape_Config.j3 k x6 x7 x199000 x199001 x199002 x199003 x199004 x199005 x201000 x201001 x210000 (([] : List (S39)) ++ [(⟨bt211.1, bt211.2⟩ : S39)]) x210004) else (none))) else (maquettelaw07_Shape_Config.j3 k x6 x7 x199000 x199001 x199002 x199003 x199004 x199005 x201000 x201001 x210000 ([] : List (S39)) x210004)
def maquettelaw07_Shape_Config.j3 : Nat → Int → Int → Int → List Int → List (List (S74)) → List Int → List Int → List Int → List (S36) → List (S46) → ByteArray → List (S39) → Int → Option ((List (S36)) × (List (S46)))
 | 0, _, _, _, _, _, _, _, _, _, _, _, _, _ => none
 | k + 1, x6, x7, x199000, x199001, x199002, x199003, x199004, x199005, x201000, x201001, x210000, x210001, x210004 => maquettelaw07_Shape_Config.l2 k x6 x7 0 x199000 x199001 x199002 x199003 x199004 x199005 x201000 x201001 x210000 x210001 ([] : List (S48)) x210004
def maquettelaw07_Shape_Config.l2 : Nat → Int → Int → Int → Int → List Int → List (List (S74)) → List Int → List Int → List Int → List (S36) → List (S46) → ByteArray → List (S39) → List (S48) → Int → Option ((List (S36)) × (List (S46)))
 | 0, _, _, _, _, _, _, _, _, _, _, _, _, _, _, _ => none
 | k + 1, x6, x7, x10, x199000, x199001, x199002, x199003, x199004, x199005, x201000, x201001, x210000, x210001, x210002, x210004 => if x10 < x6 then (if x10 = x7 then (maquettelaw07_Shape_Config.j5 k x6 x7 x10 (wrap64 ((wrap64 ((mn x10 x7) * x6)) + (mx x10 x7))) false x199000 x199001 x199002 x199003 x199004 x199005 x201000 x201001 x210000 x210001 x210002 x210004) else ((maquettelaw07_number.f x199001 (wrap64 ((wrap64 ((mn x10 x7) * x6)) + (mx x10 x7)))).bind fun t216 => (if (Int.tmod t216 3) > 0 then (maquettelaw07_Shape_Config.j5 k x6 x7 x10 (wrap64 ((wrap64 ((mn x10 x7) * x6)) + (mx x10 x7))) true x199000 x199001 x199002 x199003 x199004 x199005 x201000 x201001 x210000 x210001 x210002 x210004) else (if x10 = (wrap64 (x7 + 1)) then (maquettelaw07_Shape_Config.j5 k x6 x7 x10 (wrap64 ((wrap64 ((mn x10 x7) * x6)) + (mx x10 x7))) true x199000 x199001 x199002 x199003 x199004 x199005 x201000 x201001 x210000 x210001 x210002 x210004) else (maquettelaw07_Shape_Config.j5 k x6 x7 x10 (wrap64 ((wrap64 ((mn x10 x7) * x6)) + (mx x10 x7))) (x7 == (wrap64 (x10 + 1))) x199000 x199001 x199002 x199003 x199004 x199005 x201000 x201001 x210000 x210001 x210002 x210004))))) else ((maquettelaw07_number.f x199005 x7).bind fun t225 => (if (Int.tmod t225 5) = 4 then (if (x210002.length : Int) > 0 then ((maquettelaw05_Make.f k ((t225) % 256)).bind fun bt226 => (if (x210002.length : Int) = 0 then (none) else (if 0 ≤ (Int.tmod (wrap64 (Int.tdiv t225 8)) (x210002.length : Int)) then (if (Int.tmod (wrap64 (Int.tdiv t225 8)) (x210002.length : Int)) < (x210002.length : Int) then (if ([] : List (S60)).length < 3518437208883 then (if x201001.length < 1466015503701 then (maquettelaw07_Shape_Config.l1 k x6 (wrap64 (x7 + 1)) x199000 x199001 x199002 x199003 x199004 x199005 x201000 (x201001 ++ [(⟨x210000, x210001, x210002, (([] : List (S60)) ++ [(⟨(⟨bt226.1, bt226.2⟩ : S39), (rd_T48 x210002 (Int.tmod (wrap64 (Int.tdiv t225 8)) (x210002.length : Int))).f0, 0⟩ : S60)]), x210004⟩ : S46)])) else (none)) else (none)) else (none)) else (none)))) else (if x201001.length < 1466015503701 then (maquettelaw07_Shape_Config.l1 k x6 (wrap64 (x7 + 1)) x199000 x199001 x199002 x199003 x199004 x199005 x201000 (x201001 ++ [(⟨x210000, x210001, x210002, ([] : List (S60)), x210004⟩ : S46)])) else (none))) else (if x201001.length < 1466015503701 then (maquettelaw07_Shape_Config.l1 k x6 (wrap64 (x7 + 1)) x199000 x199001 x199002 x199003 x199004 x199005 x201000 (x201001 ++ [(⟨x210000, x210001, x210002, ([] : List (S60)), x210004⟩ : S46)])) else (none))))
def maquettelaw07_Shape_Config.j5 : Nat → Int → Int → Int → Int → Bool → Int → List Int → List (List (S74)) → List Int → List Int → List Int → List (S36) → List (S46) → ByteArray → List (S39) → List (S48) → Int → Option ((List (S36)) × (List (S46)))
 | 0, _, _, _, _, _, _, _, _, _, _, _, _, _, _, _, _, _ => none
 | k + 1, x6, x7, x10, x11, x105, x199000, x199001, x199002, x199003, x199004, x199005, x201000, x201001, x210000, x210001, x210002, x210004 => if x105 = true then ((maquettelaw07_number.f x199003 (wrap64 ((wrap64 (x7 * x6)) + x10))).bind fun t217 => ((maquettelaw07_Name.f x10).bind fun t218 => ((maquettelaw07_number.f x199001 x11).bind fun t219 => ((maquettelaw07_Shape_mapped.f x199000 x199001 x199002 x199003 x199004 x199005 t217).bind fun t220 => ((maquettelaw07_Shape_mapped.f x199000 x199001 x199002 x199003 x199004 x199005 (wrap64 (Int.tdiv t217 12))).bind fun t221 => (if x210002.length < 2199023255552 then (maquettelaw07_Shape_Config.l2 k x6 x7 (wrap64 (x10 + 1)) x199000 x199001 x199002 x199003 x199004 x199005 x201000 x201001 x210000 x210001 (x210002 ++ [(⟨t218, wrap64 (1 + (Int.tmod (wrap64 (Int.tdiv t219 3)) 3)), t220, t221, 0⟩ : S48)]) x210004) else (none))))))) else (maquettelaw07_Shape_Config.l2 k x6 x7 (wrap64 (x10 + 1)) x199000 x199001 x199002 x199003 x199004 x199005 x201000 x201001 x210000 x210001 x210002 x210004)
end
def maquettelaw07_Shape_Config.f (k : Nat) (a0_0 : Int) (l0_1 : List Int) (l0_2 : List (List (S74))) (l0_3 : List Int) (l0_4 : List Int) (l0_5 : List Int) : Option ((List (S36)) × (List (S46))) := maquettelaw07_Shape_Config.l0 k l0_2 (l0_2.length : Int) 0 a0_0 l0_1 l0_2 l0_3 l0_4 l0_5 ([] : List (S36))
theorem maquettelaw07_Shape_Config.mono_l : ∀ k, (∀ y0 y1 y2 y3 y4 y5 y6 y7 y8 y9, LeO (maquettelaw07_Shape_Config.l0 k y0 y1 y2 y3 y4 y5 y6 y7 y8 y9) (maquettelaw07_Shape_Config.l0 (k + 1) y0 y1 y2 y3 y4 y5 y6 y7 y8 y9)) ∧ (∀ y0 y1 y2 y3 y4 y5 y6 y7 y8 y9, LeO (maquettelaw07_Shape_Config.l1 k y0 y1 y2 y3 y4 y5 y6 y7 y8 y9) (maquettelaw07_Shape_Config.l1 (k + 1) y0 y1 y2 y3 y4 y5 y6 y7 y8 y9)) ∧ (∀ y0 y1 y2 y3 y4 y5 y6 y7 y8 y9 y10 y11 y12 y13, LeO (maquettelaw07_Shape_Config.j2 k y0 y1 y2 y3 y4 y5 y6 y7 y8 y9 y10 y11 y12 y13) (maquettelaw07_Shape_Config.j2 (k + 1) y0 y1 y2 y3 y4 y5 y6 y7 y8 y9 y10 y11 y12 y13)) ∧ (∀ y0 y1 y2 y3 y4 y5 y6 y7 y8 y9 y10 y11 y12, LeO (maquettelaw07_Shape_Config.j3 k y0 y1 y2 y3 y4 y5 y6 y7 y8 y9 y10 y11 y12) (maquettelaw07_Shape_Config.j3 (k + 1) y0 y1 y2 y3 y4 y5 y6 y7 y8 y9 y10 y11 y12)) ∧ (∀ y0 y1 y2 y3 y4 y5 y6 y7 y8 y9 y10 y11 y12 y13 y14, LeO (maquettelaw07_Shape_Config.l2 k y0 y1 y2 y3 y4 y5 y6 y7 y8 y9 y10 y11 y12 y13 y14) (maquettelaw07_Shape_Config.l2 (k + 1) y0 y1 y2 y3 y4 y5 y6 y7 y8 y9 y10 y11 y12 y13 y14)) ∧ (∀ y0 y1 y2 y3 y4 y5 y6 y7 y8 y9 y10 y11 y12 y13 y14 y15 y16, LeO (maquettelaw07_Shape_Config.j5 k y0 y1 y2 y3 y4 y5 y6 y7 y8 y9 y10 y11 y12 y13 y14 y15 y16) (maquettelaw07_Shape_Config.j5 (k + 1) y0 y1 y2 y3 y4 y5 y6 y7 y8 y9 y10 y11 y12 y13 y14 y15 y16))
 | 0 => ⟨fun _ _ _ _ _ _ _ _ _ _ r h => by simp [maquettelaw07_Shape_Config.l0] at h, fun _ _ _ _ _ _ _ _ _ _ r h => by simp [maquettelaw07_Shape_Config.l1] at h, fun _ _ _ _ _ _ _ _ _ _ _ _ _ _ r h => by simp [maquettelaw07_Shape_Config.j2] at h, fun _ _ _ _ _ _ _ _ _ _ _ _ _ r h => by simp [maquettelaw07_Shape_Config.j3] at h, fun _ _ _ _ _ _ _ _ _ _ _ _ _ _ _ r h => by simp [maquettelaw07_Shape_Config.l2] at h, fun _ _ _ _ _ _ _ _ _ _ _ _ _ _ _ _ _ r h => by simp [maquettelaw07_Shape_Config.j5] at h⟩
 | k + 1 => by
  obtain ⟨ih0, ih1, ih2, ih3, ih4, ih5⟩ := maquettelaw07_Shape_Config.mono_l k
  refine ⟨?_, ?_, ?_, ?_, ?_, ?_⟩<;> intros <;> (first | unfold maquettelaw07_Shape_Config.l0 | unfold maquettelaw07_Shape_Config.l1 | unfold maquettelaw07_Shape_Config.j2 | unfold maquettelaw07_Shape_Config.j3 | unfold maquettelaw07_Shape_Config.l2 | unfold maquettelaw07_Shape_Config.j5) <;> repeat' first
   | (with_reducible exact ih0 _ _ _ _ _ _ _ _ _ _)
   | (with_reducible exact ih1 _ _ _ _ _ _ _ _ _ _)
   | (with_reducible exact ih2 _ _ _ _ _ _ _ _ _ _ _ _ _ _)
   | (with_reducible exact ih3 _ _ _ _ _ _ _ _ _ _ _ _ _)
   | (with_reducible exact ih4 _ _ _ _ _ _ _ _ _ _ _ _ _ _ _)
   | (with_reducible exact ih5 _ _ _ _ _ _ _ _ _ _ _ _ _ _ _ _ _)
   | (with_reducible exact maquettelaw05_Make.mono _ _)
   | (with_reducible exact maquettelaw07_Clauses.mono _ _)
   | (with_reducible exact LeO.refl _)
   | (with_reducible exact LeO.none _)
   | (with_reducible refine LeO.ite ?_ ?_)
   | (with_reducible refine LeO.bind ?_ (fun _ => ?_))
   | exact ih0 _ _ _ _ _ _ _ _ _ _
   | exact ih1 _ _ _ _ _ _ _ _ _ _
   | exact ih2 _ _ _ _ _ _ _ _ _ _ _ _ _ _
   | exact ih3 _ _ _ _ _ _ _ _ _ _ _ _ _
   | exact ih4 _ _ _ _ _ _ _ _ _ _ _ _ _ _ _
   | exact ih5 _ _ _ _ _ _ _ _ _ _ _ _ _ _ _ _ _
   | exact maquettelaw05_Make.mono _ _
   | exact maquettelaw07_Clauses.mono _ _
   | exact LeO.none _
   | refine LeO.ite ?_ ?_
   | refine LeO.bind ?_ (fun _ => ?_)
theorem maquettelaw07_Shape_Config.mono : ∀ a0 a1 a2 a3 a4 a5 k, LeO (maquettelaw07_Shape_Config.f k a0 a1 a2 a3 a4 a5) (maquettelaw07_Shape_Config.f (k + 1) a0 a1 a2 a3 a4 a5) := by
 intro a0 a1 a2 a3 a4 a5 k
 obtain ⟨ih0, ih1, ih2, ih3, ih4, ih5⟩ := maquettelaw07_Shape_Config.mono_l k
 unfold maquettelaw07_Shape_Config.f
 repeat' first
   | (with_reducible exact ih0 _ _ _ _ _ _ _ _ _ _)
   | (with_reducible exact ih1 _ _ _ _ _ _ _ _ _ _)
   | (with_reducible exact ih2 _ _ _ _ _ _ _ _ _ _ _ _ _ _)
   | (with_reducible exact ih3 _ _ _ _ _ _ _ _ _ _ _ _ _)
   | (with_reducible exact ih4 _ _ _ _ _ _ _ _ _ _ _ _ _ _ _)
   | (with_reducible exact ih5 _ _ _ _ _ _ _ _ _ _ _ _ _ _ _ _ _)
   | (with_reducible exact maquettelaw05_Make.mono _ _)
   | (with_reducible exact maquettelaw07_Clauses.mono _ _)
   | (with_reducible exact LeO.refl _)
   | (with_reducible exact LeO.none _)
   | (with_reducible refine LeO.ite ?_ ?_)
   | (with_reducible refine LeO.bind ?_ (fun _ => ?_))
   | exact ih0 _ _ _ _ _ _ _ _ _ _
   | exact ih1 _ _ _ _ _ _ _ _ _ _
   | exact ih2 _ _ _ _ _ _ _ _ _ _ _ _ _ _
   | exact ih3 _ _ _ _ _ _ _ _ _ _ _ _ _
   | exact ih4 _ _ _ _ _ _ _ _ _ _ _ _ _ _ _
   | exact ih5 _ _ _ _ _ _ _ _ _ _ _ _ _ _ _ _ _
   | exact maquettelaw05_Make.mono _ _
   | exact maquettelaw07_Clauses.mono _ _
   | exact LeO.none _
   | refine LeO.ite ?_ ?_
   | refine LeO.bind ?_ (fun _ => ?_)
def maquettelaw07_Shape_Config.T6 : Bool × List (List Nat × List Nat) := (true, [([], []), ([0], [0]), ([], []), ([2], [2]), ([3], [3]), ([4], [4]), ([5], [5]), ([], []), ([7], [7]), ([6, 8], [6, 8]), ([9], [9]), ([1, 10, 8], [1, 10]), ([0, 1, 2, 3, 4, 5, 6, 7, 8, 9, 10, 11], []), ([12, 11, 11, 0, 1, 2, 3, 4, 5, 6, 7, 8, 9, 10, 11], [11, 12])])
def maquettelaw07_Shape_Config.B6 : List Nat := [0, 1, 0, 4, 12, 28, 60, 0, 128, 508, 1020, 2047, 4095, 8191]
theorem maquettelaw07_Shape_Config.tab6 : rtab .any (opsOf Tryd.f9 6) = maquettelaw07_Shape_Config.T6 := by kernel_rfl
theorem maquettelaw07_Shape_Config.bits6 : waitsOk maquettelaw07_Shape_Config.T6.2 maquettelaw07_Shape_Config.B6 = true := by kernel_rfl
def maquettelaw07_Shape_Config.T15 : Bool × List (List Nat × List Nat) := (true, [([], []), ([0], [0]), ([], []), ([2], [2]), ([3], [3]), ([4], [4]), ([1, 5, 4], [1, 5]), ([0, 1, 2, 3, 4, 5, 6], []), ([7, 6, 6, 0, 1, 2, 3, 4, 5, 6], [6, 7])])
def maquettelaw07_Shape_Config.B15 : List Nat := [0, 1, 0, 4, 12, 28, 63, 127, 255]
theorem maquettelaw07_Shape_Config.tab15 : rtab .any (opsOf Tryd.f9 15) = maquettelaw07_Shape_Config.T15 := by kernel_rfl
theorem maquettelaw07_Shape_Config.bits15 : waitsOk maquettelaw07_Shape_Config.T15.2 maquettelaw07_Shape_Config.B15 = true := by kernel_rfl
def maquettelaw07_Shape_Config.T22 : Bool × List (List Nat × List Nat) := (true, [([], []), ([0], [0]), ([], []), ([2], [2]), ([], []), ([4], [4]), ([], []), ([5, 6, 3], [5, 6]), ([7], [7]), ([8], [8]), ([9], [9]), ([], []), ([], []), ([11, 12, 7], [11, 12]), ([], []), ([], []), ([15], [15]), ([14, 16, 13], [14, 16]), ([3, 10, 13, 17], [3, 10, 13, 17]), ([18], [18]), ([1, 19, 17], [1, 19]), ([0, 1, 2, 3, 4, 5, 6, 7, 8, 9, 10, 11, 12, 13, 14, 15, 16, 17, 18, 19, 20], []), ([21, 20, 20, 0, 1, 2, 3, 4, 5, 6, 7, 8, 9, 10, 11, 12, 13, 14, 15, 16, 17, 18, 19, 20], [20, 21])])
def maquettelaw07_Shape_Config.B22 : List Nat := [0, 1, 0, 4, 0, 16, 0, 124, 252, 508, 1020, 0, 0, 6396, 0, 0, 32768, 129276, 262140, 524284, 1048575, 2097151, 4194303]
theorem maquettelaw07_Shape_Config.tab22 : rtab .any (opsOf Tryd.f9 22) = maquettelaw07_Shape_Config.T22 := by kernel_rfl
theorem maquettelaw07_Shape_Config.bits22 : waitsOk maquettelaw07_Shape_Config.T22.2 maquettelaw07_Shape_Config.B22 = true := by kernel_rfl
def maquettelaw07_Shape_Config.T25 : Bool × List (List Nat × List Nat) := (true, [([], []), ([0], [0]), ([], []), ([2], [2]), ([3], [3]), ([], []), ([5], [5]), ([], []), ([7], [7]), ([], []), ([9], [9]), ([10], [10]), ([8, 11], [8, 11]), ([6, 12], [6, 12]), ([13], [13]), ([14], [14]), ([4, 15], [4, 15]), ([16], [16]), ([1, 17, 4], [1, 17]), ([0, 1, 2, 3, 4, 5, 6, 7, 8, 9, 10, 11, 12, 13, 14, 15, 16, 17, 18], []), ([19, 18, 18, 0, 1, 2, 3, 4, 5, 6, 7, 8, 9, 10, 11, 12, 13, 14, 15, 16, 17, 18], [18, 19])])
def maquettelaw07_Shape_Config.B25 : List Nat := [0, 1, 0, 4, 12, 0, 32, 0, 128, 0, 512, 1536, 3968, 8160, 16352, 32736, 65532, 131068, 262143, 524287, 1048575]
theorem maquettelaw07_Shape_Config.tab25 : rtab .any (opsOf Tryd.f9 25) = maquettelaw07_Shape_Config.T25 := by kernel_rfl
theorem maquettelaw07_Shape_Config.bits25 : waitsOk maquettelaw07_Shape_Config.T25.2 maquettelaw07_Shape_Config.B25 = true := by kernel_rfl
set_option maxHeartbeats 8000000 in
set_option maxRecDepth 100000 in
theorem maquettelaw07_Shape_Config.calls (k : Nat) (a0_0 : Int) (A0_1 : Option Addr) (c0_1 : Nat) (l0_1 : List Int) (A0_2 : Option Addr) (c0_2 : Nat) (l0_2 : List (List (S74))) (A0_3 : Option Addr) (c0_3 : Nat) (l0_3 : List Int) (A0_4 : Option Addr) (c0_4 : Nat) (l0_4 : List Int) (A0_5 : Option Addr) (c0_5 : Nat) (l0_5 : List Int) (r1 : List (S36)) (r2 : List (S46)) (w : World) (hr0_1 : Kd.C (Kd.int .u8) w A0_1 l0_1.length l0_1) (hc0_1 : l0_1.length ≤ c0_1) (hr0_2 : Kd.C (Kd.slice 74 k74) w A0_2 l0_2.length l0_2) (hc0_2 : l0_2.length ≤ c0_2) (hr0_3 : Kd.C (Kd.int .u8) w A0_3 l0_3.length l0_3) (hc0_3 : l0_3.length ≤ c0_3) (hr0_4 : Kd.C (Kd.int .u8) w A0_4 l0_4.length l0_4) (hc0_4 : l0_4.length ≤ c0_4) (hr0_5 : Kd.C (Kd.int .u8) w A0_5 l0_5.length l0_5) (hc0_5 : l0_5.length ≤ c0_5) (h : maquettelaw07_Shape_Config.f k a0_0 l0_1 l0_2 l0_3 l0_4 l0_5 = some (r1, r2)) :
  Calls Tryd.prog 9 #[.agg #[.int .u8 a0_0, .slice A0_1 l0_1.length c0_1, .slice A0_2 l0_2.length c0_2, .slice A0_3 l0_3.length c0_3, .slice A0_4 l0_4.length c0_4, .slice A0_5 l0_5.length c0_5]] w fun e w' => ∃ v0_ v1_ : Value, e = .returned (.agg #[v0_, v1_]) ∧ Kd.S k36 36 w' w.heap.size (fun _ => True) v0_ r1 ∧ Kd.S k46 46 w' w.heap.size (fun _ => True) v1_ r2 ∧ Below w.heap.size w w' := by
 have hu25 := Tryd.underlying25
 have hu30 := Tryd.underlying30
 have hu36 := Tryd.underlying36
 have hu46 := Tryd.underlying46
 have hu48 := Tryd.underlying48
 have hu60 := Tryd.underlying60
 have HR0_1 := Aside0.mk hr0_1
 have HC0_1 := Aside0.mk hc0_1
 clear hr0_1 hc0_1
 have HR0_2 := Aside0.mk hr0_2
 have HC0_2 := Aside0.mk hc0_2
 clear hr0_2 hc0_2
 have HR0_3 := Aside0.mk hr0_3
 have HC0_3 := Aside0.mk hc0_3
 clear hr0_3 hc0_3
 have HR0_4 := Aside0.mk hr0_4
 have HC0_4 := Aside0.mk hc0_4
 clear hr0_4 hc0_4
 have HR0_5 := Aside0.mk hr0_5
 have HC0_5 := Aside0.mk hc0_5
 clear hr0_5 hc0_5
 have HB := Aside0.mk (Below.refl w.heap.size w)
 have H : (maquettelaw07_Shape_Config.l0 k l0_2 (l0_2.length : Int) 0 a0_0 l0_1 l0_2 l0_3 l0_4 l0_5 ([] : List (S36))) = some (r1, r2) := h
 clear h
 have H' := Aside0.mk H
 clear H
 go_enter Tryd.func9, Tryd.ntmps9
 go_wp2_with (first | ((with_reducible refine gate_dst (N := 1) rfl ?_); (try (refine gate_guard (by rfl) ?_; dsimp only)); refine bx 1 (cs := #[.int .u8 a0_0, .slice A0_1 l0_1.length c0_1, .slice A0_2 l0_2.length c0_2, .slice A0_3 l0_3.length c0_3, .slice A0_4 l0_4.length c0_4, .slice A0_5 l0_5.length c0_5]) (t := 25) (h := ?_); intro gb198 hg w2 hbox hb; have BK198 := Aside0.mk hbox; have GW198 : Aside0 (w.heap.size ≤ gb198) := bge hg; have GE198 : Aside0 (w.heap.size ≤ gb198) := bge hg; replace HB := bst hb; clear hb hbox hg) | ((with_reducible refine gate_dst (N := 2) rfl ?_); (try (refine gate_guard (by rfl) ?_; dsimp only)); refine bx 2 (cs := #[.slice none 0 0, .slice none 0 0]) (t := 30) (h := ?_); intro gb199 hg w3 hbox hb; have BK199 := Aside0.mk hbox; have GW199 : Aside0 (w.heap.size ≤ gb199) := bge hg; have GE199 : Aside0 (w.heap.size ≤ gb199) := bge hg; have NB198_199 := bne BK198 hg; have NB199_198 := bnf BK198 hg; replace BK198 := bkb BK198 hb; replace HB := bst hb; clear hb hbox hg) | ((with_reducible refine gate_dst (N := 3) rfl ?_); (try (refine gate_guard (by rfl) ?_; dsimp only)); refine bx 3 (cs := #[.slice none 0 0, .slice none 0 0]) (t := 30) (h := ?_); intro gb200 hg w4 hbox hb; have BK200 := Aside0.mk hbox; have GW200 : Aside0 (w.heap.size ≤ gb200) := bge hg; have GE200 : Aside0 (w.heap.size ≤ gb200) := bge hg; have NB198_200 := bne BK198 hg; have NB200_198 := bnf BK198 hg; have NB199_200 := bne BK199 hg; have NB200_199 := bnf BK199 hg; replace BK198 := bkb BK198 hb; replace BK199 := bkb BK199 hb; replace HB := bst hb; clear hb hbox hg; have hnb5 := NB198_199.out; have hnc5 := NB199_198.out; have hnb6 := NB198_200.out; have hnc6 := NB200_198.out; obtain ⟨hcz7_0, hcz7_1, hcz7_2, hcz7_3, hcz7_4, hcz7_5, hfz7_0, hfz7_1, hfz7_2, hfz7_3, hfz7_4, hfz7_5⟩ := bc6 BK198))
 go_loopg [17] k (fun kq v17 w' => ∃ (x17_1 : Int) (x201000_1 : List (S36)) (u201000 : Value), v17 = .int .i64 x17_1 ∧ Aside0 (maquettelaw07_Shape_Config.l0 kq l0_2 (l0_2.length : Int) x17_1 a0_0 l0_1 l0_2 l0_3 l0_4 l0_5 x201000_1 = some (r1, r2)) ∧ Aside0 (kq ≤ k) ∧ Aside0 (Kd.S k36 36 w' w.heap.size (fun _ => True) u201000 x201000_1) ∧ Aside0 (w'.heap[gb198]? = some (.cells #[.int .u8 a0_0, (.slice A0_1 l0_1.length c0_1), (.slice A0_2 l0_2.length c0_2), (.slice A0_3 l0_3.length c0_3), (.slice A0_4 l0_4.length c0_4), (.slice A0_5 l0_5.length c0_5)] 25 (0, 0))) ∧ Aside0 (w'.heap[gb199]? = some (.cells #[(.slice none 0 0), (.slice none 0 0)] 30 (0, 0))) ∧ Aside0 (w'.heap[gb200]? = some (.cells #[u201000, (.slice none 0 0)] 30 (0, 0))) ∧ Aside0 (Below w.heap.size w w'))
 case atStart => exact ⟨(0), (([] : List (S36))), (.slice none 0 0), (by first | rfl | (simp; done) | (simp [*]; done)), H', ⟨Nat.le_refl _⟩, ⟨by first | exact Kd.S_nil _ _ _ _ _ | exact Kd.N_nil _ _ _ _ _ | exact Kd.V_nil _ _ _ _ _ | exact Kd.Q_nil _ _ _ _ _ | exact Kd.R_nil _ _ _ _ _⟩, ⟨bkq BK198⟩, ⟨bkq BK199⟩, ⟨bkq BK200⟩, ⟨by repeat (first | (with_reducible first | exact HB.out | apply below_alloc | apply pw_below_drewN | apply below_drew1 | refine below_set ?_ GE198.out | refine below_set ?_ GE199.out | refine below_set ?_ GE200.out) | exact HB.out)⟩⟩
 case round =>
  clear H'
  try clear p2
  try clear c5
  try clear c6
  try clear hcz7_0 hcz7_1 hcz7_2 hcz7_3 hcz7_4 hcz7_5 hfz7_0 hfz7_1 hfz7_2 hfz7_3 hfz7_4 hfz7_5
  obtain ⟨x17_1, x201000_1, u201000, rfl, HA, HK1, HO_201000, BK198, BK199, BK200, HB⟩ := hrel
  cases gk with
  | zero => exact absurd HA.out (by simp [maquettelaw07_Shape_Config.l0])
  | succ k1 =>
   have H := HA.out
   clear HA
   simp only [maquettelaw07_Shape_Config.l0] at H
   by_cases c8 : x17_1 < (l0_2.length : Int)
   ·rw [if_pos c8] at H
    have c8b0 := decide_eq_true c8
    clear c8
    by_cases c9 : 0 ≤ x17_1
    ·rw [if_pos c9] at H
     have c9b0 := decide_eq_true c9
     clear c9
     by_cases c10 : x17_1 < (l0_2.length : Int)
     ·rw [if_pos c10] at H
      have c10b0 := decide_eq_true c10
      clear c10
      by_cases c11 : x17_1 < 4
      ·rw [if_pos c11] at H
       have c11b0 := decide_eq_true c11
       clear c11
       by_cases c12 : 1 + (Utf8.encode (wrap32 (wrap64 (97 + x17_1)))).size ≤ 9223372036854775807
       ·rw [if_pos c12] at H
        have c12b0 := eq_true c12
        have c12b1 := decide_eq_true c12
        try have c12b2 := eq_false (Nat.not_lt.2 c12)
        replace H := Option.bind_eq_some_iff.mp H
        obtain ⟨t202, A130, H⟩ := H
        replace H : (if x201000_1.length < 2932031007402 then (maquettelaw07_Shape_Config.l0 k1 l0_2 (l0_2.length : Int) (wrap64 (x17_1 + 1)) a0_0 l0_1 l0_2 l0_3 l0_4 l0_5 (x201000_1 ++ [(⟨(⟨#[109]⟩ : ByteArray) ++ (Utf8.encode (wrap32 (wrap64 (97 + x17_1)))), t202, 0⟩ : S36)])) else (none)) = some (r1, r2) := H
        have A13 := Aside0.mk A130
        clear A130
        by_cases c14 : x201000_1.length < 2932031007402
        ·rw [if_pos c14] at H
         have LMc14 := Aside0.mk c14
         clear c14
         obtain ⟨y205, hy205⟩ : ∃ y_ : List (S36), y_ = (x201000_1 ++ [(⟨(⟨#[109]⟩ : ByteArray) ++ (Utf8.encode (wrap32 (wrap64 (97 + x17_1)))), t202, 0⟩ : S36)]) := ⟨_, rfl⟩
         replace H : (maquettelaw07_Shape_Config.l0 k1 l0_2 (l0_2.length : Int) (wrap64 (x17_1 + 1)) a0_0 l0_1 l0_2 l0_3 l0_4 l0_5 y205) = some (r1, r2) := by first | (rw [hy205]; with_reducible exact H) | (have H2_ := (Option.bind_some _ _).symm.trans H; rw [hy205]; with_reducible exact H2_) | (have H2_ := (Option.bind_some _ _).symm.trans H; with_reducible exact H2_) | with_reducible exact H | (rw [hy205]; exact H) | exact H
         have Ny205 := Aside0.mk hy205
         clear hy205
         have H' := Aside0.mk H
         clear H
         have p201 : 0 ≤ (x17_1 : Int) := of_decide_eq_true (by first | (with_reducible assumption) | assumption)
         have q201 : x17_1 < (l0_2.length : Int) := of_decide_eq_true (by first | (with_reducible assumption) | assumption)
         obtain ⟨ad201, A201_0, c201_0, e201, hx201_0, hl201_0, hi201_0⟩ := at_L20 HR0_2.out x17_1 p201 q201
         cases e201
         replace hx201_0 := (HB.out.cell (World.block_lt_of_cell? w _ hx201_0)).trans hx201_0
         have HR201_0 := Aside0.mk hi201_0
         have HC201_0 := Aside0.mk hl201_0
         clear hi201_0 hl201_0
         replace p201 := eq_true p201
         replace q201 := eq_true q201
         try go_wp2
         replace HO_201000 := Aside0.mk (Kd.S_drew HO_201000.out)
         replace BK198 := Aside0.mk (blk_drew BK198.out)
         replace BK199 := Aside0.mk (blk_drew BK199.out)
         replace BK200 := Aside0.mk (blk_drew BK200.out)
         replace HB := Aside0.mk (below_drew1 HB.out)
         refine start_ (n := 14) (S := fun w' => CE2 w' gb200 (u201000) (.slice none 0 0)) (ds := [13]) #[false, false, false, false, false, false, false, false, false, false, false, false, false, false] (by kernel_rfl) rfl rfl (he2 BK200) (fun hHeld => ?_); refine with_tabW maquettelaw07_Shape_Config.tab6 maquettelaw07_Shape_Config.bits6 (fun HT_ HW_ => ?_)
         generalize wr.drew = w15 at HO_201000 BK198 BK199 BK200 HB hHeld ⊢
         refine pu HT_ 0 (some 24) (mk 14 1) ?_
         refine pu HT_ 2 (some 26) (mk 14 5) ?_
         refine pu HT_ 3 (some 27) (mk 14 13) ?_
         refine pu HT_ 4 (some 28) (mk 14 29) ?_
         refine pu HT_ 5 (some 29) (mk 14 61) ?_
         refine pu HT_ 6 (some 30) (mk 14 125) ?_
         refine pu HT_ 7 (some 31) (mk 14 253) ?_
         refine tk HT_ HW_ 1 (some 25) (mk 14 255) hHeld ?_
         refine on HT_ 8 (some 32) (mk 14 511) fun K hK => ?_
         refine go1 Tryd.func14 #[.slice A201_0 (rd_L20 l0_2 x17_1).length c201_0] ?_
         with_reducible refine (maquettelaw07_Clauses.calls k1 _ _ (rd_L20 l0_2 x17_1) t202 _ ?side1 ?side2 A13.out).mono ?_
         (case side1 => exact kcb HR201_0)
         (case side2 => exact HC201_0.out)
         rintro e w16 ⟨v203, rfl, ho0, hb⟩
         refine ⟨_, rfl, ?_⟩
         have HO204 := Aside0.mk (Kd.R_lower ho0 (below_size bel))
         replace HO_201000 := Aside0.mk (Kd.S_elder' (kS HO_201000) (Kd.R_base ho0) hb)
         replace BK198 := bkb BK198 hb
         replace BK199 := bkb BK199 hb
         replace BK200 := bkb BK200 hb
         replace HB := bst hb
         (try clear hb)
         (try clear hb2)
         (try clear hk)
         (try clear hi)
         (try clear ho0)
         obtain ⟨Ao17, co17, eo17⟩ := Kd.R_slice HO204.out
         (first | subst eo17 | (injection eo17 with f1_ f2_ f3_; have f4_ := f1_.symm; have f5_ := f3_.symm; clear f1_ f2_ f3_; subst f4_; subst f5_))
         refine hK.out _ _ (he2 BK200) (fun hHeld => ?_)
         clear hK K
         refine nm (some 32) ?_
         refine pu HT_ 9 (some 33) (mk 14 1023) ?_
         refine on HT_ 10 (some 34) (mk 14 2047) fun K hK => ?_
         refine value_ (w1 := ?_) (v := ?_) (by rfl) rfl ?_ ?_
         rotate_left 2
         ·go_simp
          constructor
          ·rfl
          ·rfl
         refine hK.out _ _ ⟨(blk_cell (blk_alloc BK200.out _) 0).trans rfl, (blk_cell (blk_alloc BK200.out _) 1).trans rfl⟩ (fun hHeld => ?_)
         clear hK K
         refine nm (some 34) ?_
         refine on HT_ 11 (some 35) (mk 14 4095) fun K hK => ?_
         refine Kd.S_append_step k36 (w0 := w) w.heap.size (by rfl) (.tmp 25) (.tmp 34) 27 36 (.agg #[(.string ⟨#[]⟩), (.slice none 0 0), (.int .i64 0)]) 48 rfl Tryd.underlying27 info36 rfl (by decide) (by omega) u201000 x201000_1 (⟨(⟨#[109]⟩ : ByteArray) ++ (Utf8.encode (wrap32 (wrap64 (97 + x17_1)))), t202, 0⟩ : S36) [.string ((⟨#[109]⟩ : ByteArray) ++ (Utf8.encode (wrap32 (wrap64 (97 + x17_1))))), .slice Ao17 t202.length co17, .int .i64 0] (fun _ => True) (fun k_ => some k_ = (.slice Ao17 t202.length co17 : Value).ownBlock) rfl rfl ?aP (fun k_ hk_ => ((Kd.R_mono (ok' := fun k_ => ((fun _ => True)) k_ ∧ some k_ ≠ (u201000 : Value).ownBlock) (Kd.R_apart' (HO204.out) (Kd.S_typed HO_201000.out) (by decide)) (fun k_ hk => ⟨trivial, hk.2⟩))).1 k_ hk_.symm) ?aF ?aO ?aB ?aS ?aL ?_
         (case aP => exact k36_mkM _ _ _ (⟨(⟨#[109]⟩ : ByteArray) ++ (Utf8.encode (wrap32 (wrap64 (97 + x17_1)))), t202, 0⟩ : S36) (Kd.R_mono (Kd.R_tight rfl (Kd.R_mono (ok' := fun k_ => ((fun _ => True)) k_ ∧ some k_ ≠ (u201000 : Value).ownBlock) (Kd.R_apart' (HO204.out) (Kd.S_typed HO_201000.out) (by decide)) (fun k_ hk => ⟨trivial, hk.2⟩))) (fun _ h_ => h_)))
         (case aB => exact bel)
         (case aF => exact (fun _ _ => trivial))
         (case aO => exact (by (with_reducible repeat (first | apply Kd.S_alloc | apply Kd.S_drewN | apply Kd.S_drew)); exact Kd.S_mono HO_201000.out (fun k_ hk => ⟨trivial, fun e_ => hk.2 e_⟩)))
         (case aS => exact (below_size bel))
         (case aL => have := LMc14.out; omega)
         intro v206 w18 ho hb hg hat
         rw [← Ny205.out] at ho
         have HO207 := Aside0.mk ho
         replace BK198 := Aside0.mk (blk_grown (bkq BK198) hg (Kd.S_ne HO_201000.out BK198.out (by decide)))
         replace BK199 := Aside0.mk (blk_grown (bkq BK199) hg (Kd.S_ne HO_201000.out BK199.out (by decide)))
         replace BK200 := Aside0.mk (blk_grown (bkq BK200) hg (Kd.S_ne HO_201000.out BK200.out (by decide)))
         replace HB := Aside0.mk (hb)
         clear HO_201000 HO204
         clear ho hb hg hat
         obtain ⟨Ao19, co19, eo19⟩ := Kd.S_slice HO207.out
         (first | subst eo19 | (injection eo19 with f1_ f2_ f3_; have f4_ := f1_.symm; have f5_ := f3_.symm; clear f1_ f2_ f3_; subst f4_; subst f5_))
         refine hK.out _ _ (he2 BK200) (fun hHeld => ?_)
         clear hK K
         refine nm (some 35) ?_
         refine pu HT_ 12 (some 36) (mk 14 8191) ?_
         refine la HT_ 13 (none) (mk 14 16383) fun K hK => ?_
         have hs20 : w18.cell? ⟨gb200, 0, none⟩ = some (u201000) := (blk_cell BK200.out 0).trans rfl
         have hfs20 := blk_frozen BK200.out 0
         have hns20_0 := NB198_200.out
         have hns20_1 := NB199_200.out
         have hms20_0 := NB200_198.out
         have hms20_1 := NB200_199.out
         refine skip_ (w1 := ?_) (by rfl) rfl ?_ ?_
         rotate_left
         ·go_simp
          rfl
         refine hK.out _ _ ?_
         clear hK K
         refine done_ (done_of HT_.out (by kernel_rfl)) ?_
         try go_wp2
         go_roundg k1
         case measure => have := HK1.out; omega
         case rel => exact ⟨(wrap64 (x17_1 + 1)), (y205), (.slice Ao19 y205.length co19), (by first | rfl | (simp; done) | (simp [*]; done)), H', ⟨by have := HK1.out; omega⟩, ⟨by (with_reducible repeat (first | apply Kd.S_alloc | apply Kd.S_drewN | apply Kd.S_drew)); exact Kd.S_mono (Kd.S_far (p := ⟨gb200, 0, none⟩) (Kd.S_types HO207.out BK200.out (by decide)) (fun _ hk => hk.2) (.slice Ao19 y205.length co19)) (fun _ hk => trivial)⟩, ⟨bkq BK198⟩, ⟨bkq BK199⟩, ⟨bkp BK200⟩, ⟨by repeat (first | (with_reducible first | exact HB.out | apply below_alloc | apply pw_below_drewN | apply below_drew1 | refine below_set ?_ GE198.out | refine below_set ?_ GE199.out | refine below_set ?_ GE200.out) | exact HB.out)⟩⟩
        ·rw [if_neg c14] at H
         exact absurd H (by simp)
       ·rw [if_neg c12] at H
        exact absurd H (by simp)
      ·rw [if_neg c11] at H
       have c11b0 := decide_eq_false c11
       clear c11
       have H' := Aside0.mk H
       clear H
       have p201 : 0 ≤ (x17_1 : Int) := of_decide_eq_true (by first | (with_reducible assumption) | assumption)
       have q201 : x17_1 < (l0_2.length : Int) := of_decide_eq_true (by first | (with_reducible assumption) | assumption)
       obtain ⟨ad201, A201_0, c201_0, e201, hx201_0, hl201_0, hi201_0⟩ := at_L20 HR0_2.out x17_1 p201 q201
       cases e201
       replace hx201_0 := (HB.out.cell (World.block_lt_of_cell? w _ hx201_0)).trans hx201_0
       have HR201_0 := Aside0.mk hi201_0
       have HC201_0 := Aside0.mk hl201_0
       clear hi201_0 hl201_0
       replace p201 := eq_true p201
       replace q201 := eq_true q201
       go_wp2
       go_roundg k1
       case measure => have := HK1.out; omega
       case rel => exact ⟨(wrap64 (x17_1 + 1)), (x201000_1), (u201000), (by first | rfl | (simp; done) | (simp [*]; done)), H', ⟨by have := HK1.out; omega⟩, ⟨by (with_reducible repeat (first | apply Kd.S_alloc | apply Kd.S_drewN | apply Kd.S_drew)); exact HO_201000.out⟩, ⟨bkq BK198⟩, ⟨bkq BK199⟩, ⟨bkq BK200⟩, ⟨by repeat (first | (with_reducible first | exact HB.out | apply below_alloc | apply pw_below_drewN | apply below_drew1 | refine below_set ?_ GE198.out | refine below_set ?_ GE199.out | refine below_set ?_ GE200.out) | exact HB.out)⟩⟩
     ·rw [if_neg c10] at H
      exact absurd H (by simp)
    ·rw [if_neg c9] at H
     exact absurd H (by simp)
   ·rw [if_neg c8] at H
    have c8b0 := decide_eq_false c8
    clear c8
    have H' := Aside0.mk H
    clear H
    have hnb21 := NB198_199.out
    have hnc21 := NB199_198.out
    have hnb22 := NB198_200.out
    have hnc22 := NB200_198.out
    obtain ⟨hcz23_0, hcz23_1, hcz23_2, hcz23_3, hcz23_4, hcz23_5, hfz23_0, hfz23_1, hfz23_2, hfz23_3, hfz23_4, hfz23_5⟩ := bc6 BK198
    go_wp2
    go_loopg [7] k1 (fun kq v7 w' => ∃ (x7_2 : Int) (x201001_2 : List (S46)) (u201001 : Value), v7 = .int .i64 x7_2 ∧ Aside0 (maquettelaw07_Shape_Config.l1 kq (wrap64 (Int.tmod a0_0 8)) x7_2 a0_0 l0_1 l0_2 l0_3 l0_4 l0_5 x201000_1 x201001_2 = some (r1, r2)) ∧ Aside0 (kq ≤ k1) ∧ Aside0 (Kd.S k36 36 w' w.heap.size (fun _ => True) u201000 x201000_1) ∧ Aside0 (Kd.S k46 46 w' w.heap.size (fun _ => True) u201001 x201001_2) ∧ Aside0 (w'.heap[gb198]? = some (.cells #[.int .u8 a0_0, (.slice A0_1 l0_1.length c0_1), (.slice A0_2 l0_2.length c0_2), (.slice A0_3 l0_3.length c0_3), (.slice A0_4 l0_4.length c0_4), (.slice A0_5 l0_5.length c0_5)] 25 (0, 0))) ∧ Aside0 (w'.heap[gb199]? = some (.cells #[(.slice none 0 0), (.slice none 0 0)] 30 (0, 0))) ∧ Aside0 (w'.heap[gb200]? = some (.cells #[u201000, u201001] 30 (0, 0))) ∧ Aside0 (Below w.heap.size w w'))
    case atStart => exact ⟨(0), (([] : List (S46))), (.slice none 0 0), (by first | rfl | (simp; done) | (simp [*]; done)), H', ⟨Nat.le_refl _⟩, ⟨by (with_reducible repeat (first | apply Kd.S_alloc | apply Kd.S_drewN | apply Kd.S_drew)); exact HO_201000.out⟩, ⟨by first | exact Kd.S_nil _ _ _ _ _ | exact Kd.N_nil _ _ _ _ _ | exact Kd.V_nil _ _ _ _ _ | exact Kd.Q_nil _ _ _ _ _ | exact Kd.R_nil _ _ _ _ _⟩, ⟨bkq BK198⟩, ⟨bkq BK199⟩, ⟨bkq BK200⟩, ⟨by repeat (first | (with_reducible first | exact HB.out | apply below_alloc | apply pw_below_drewN | apply below_drew1 | refine below_set ?_ GE198.out | refine below_set ?_ GE199.out | refine below_set ?_ GE200.out) | exact HB.out)⟩⟩
    case round =>
     clear H'
     try clear c1
     try clear c2
     try clear p2 p2
     try clear q2
     try clear hx2
     try clear p3
     try clear c5
     try clear c6
     try clear p6
     try clear c8
     try clear c8b0
     try clear c9
     try clear c9b0
     try clear c10
     try clear c10b0
     try clear c11
     try clear c11b0
     try clear c12
     try clear c12b0
     try clear c12b1
     try clear c12b2
     try clear c14
     try clear c20
     try clear p20
     try clear q20
     try clear hx20
     try clear c21
     try clear c22
     try clear hcz23_0 hcz23_1 hcz23_2 hcz23_3 hcz23_4 hcz23_5 hfz23_0 hfz23_1 hfz23_2 hfz23_3 hfz23_4 hfz23_5
     try clear hcz7_0 hcz7_1 hcz7_2 hcz7_3 hcz7_4 hcz7_5 hfz7_0 hfz7_1 hfz7_2 hfz7_3 hfz7_4 hfz7_5
     try clear hx201_0
     try clear p201
     try clear q201
     obtain ⟨x7_2, x201001_2, u201001, rfl, HA, HK2, HO_201000, HO_201001, BK198, BK199, BK200, HB⟩ := hrel
     cases gk with
     | zero => exact absurd HA.out (by simp [maquettelaw07_Shape_Config.l1])
     | succ k2 =>
      have H := HA.out
      clear HA
      simp only [maquettelaw07_Shape_Config.l1] at H
      by_cases c24 : x7_2 < (wrap64 (Int.tmod a0_0 8))
      ·rw [if_pos c24] at H
       have c24b0 := decide_eq_true c24
       clear c24
       replace H := Option.bind_eq_some_iff.mp H
       obtain ⟨t208, A250, H⟩ := H
       replace H : ((maquettelaw07_number.f l0_4 x7_2).bind fun t210 => (if x7_2 = 0 then (maquettelaw07_Shape_Config.j2 k2 (wrap64 (Int.tmod a0_0 8)) x7_2 t210 true a0_0 l0_1 l0_2 l0_3 l0_4 l0_5 x201000_1 x201001_2 t208 0) else (maquettelaw07_Shape_Config.j2 k2 (wrap64 (Int.tmod a0_0 8)) x7_2 t210 ((Int.tmod t210 4) == 0) a0_0 l0_1 l0_2 l0_3 l0_4 l0_5 x201000_1 x201001_2 t208 0))) = some (r1, r2) := H
       have A25 := Aside0.mk A250
       clear A250
       replace H := Option.bind_eq_some_iff.mp H
       obtain ⟨t210, A260, H⟩ := H
       replace H : (if x7_2 = 0 then (maquettelaw07_Shape_Config.j2 k2 (wrap64 (Int.tmod a0_0 8)) x7_2 t210 true a0_0 l0_1 l0_2 l0_3 l0_4 l0_5 x201000_1 x201001_2 t208 0) else (maquettelaw07_Shape_Config.j2 k2 (wrap64 (Int.tmod a0_0 8)) x7_2 t210 ((Int.tmod t210 4) == 0) a0_0 l0_1 l0_2 l0_3 l0_4 l0_5 x201000_1 x201001_2 t208 0)) = some (r1, r2) := H
       have A26 := Aside0.mk A260
       clear A260
       have HC27 := Aside0.mk H
       clear H
       go_upto_region 14 with (first | ((with_reducible refine gate_dst (N := 48) rfl ?_); refine gl (some 48) Tryd.func15 #[.int .i64 x7_2] ?_; (with_reducible refine (maquettelaw07_Name.calls x7_2 t208 _ A25.out).mono ?_); rintro e w' ⟨rfl, ⟨nd, rfl⟩⟩; refine ⟨_, rfl, ?_⟩; (try (rw [drewN_self wr]; generalize hq_ : World.drewN wr _ = wr; replace HO_201000 := dS hq_ HO_201000; replace HO_201001 := dS hq_ HO_201001; replace BK198 := bkd hq_ BK198; replace BK199 := bkd hq_ BK199; replace BK200 := bkd hq_ BK200; replace HB := bld (w := w) hq_; clear hq_))) | ((with_reducible refine gate_dst (N := 8) rfl ?_); (try (refine gate_guard (by rfl) ?_; dsimp only)); refine bx 8 (cs := #[.string (⟨#[]⟩ : ByteArray), .slice none 0 0, .slice none 0 0, .slice none 0 0, .int .i64 0]) (t := 46) (h := ?_); intro gb209 hg w28 hbox hb; have BK209 := Aside0.mk hbox; have GW209 : Aside0 (w.heap.size ≤ gb209) := bge hg; have GE209 : Aside0 (w.heap.size ≤ gb209) := bge hg; have NB198_209 := bne BK198 hg; have NB209_198 := bnf BK198 hg; have NB199_209 := bne BK199 hg; have NB209_199 := bnf BK199 hg; have NB200_209 := bne BK200 hg; have NB209_200 := bnf BK200 hg; replace HO_201000 := Aside0.mk (Kd.S_below (kS HO_201000) hb); replace HO_201001 := Aside0.mk (Kd.S_below (Kd.S_elderB (kS HO_201001) gb209 (Nat.le_of_eq hg.symm)) hb); replace BK198 := bkb BK198 hb; replace BK199 := bkb BK199 hb; replace BK200 := bkb BK200 hb; replace HB := bst hb; clear hb hbox hg; have hnb29 := NB209_198.out; have hnc29 := NB198_209.out; have hnb30 := NB209_199.out; have hnc30 := NB199_209.out; have hnb31 := NB209_200.out; have hnc31 := NB200_209.out; obtain ⟨hcz32_0, hcz32_1, hcz32_2, hcz32_3, hcz32_4, hfz32_0, hfz32_1, hfz32_2, hfz32_3, hfz32_4⟩ := bc5 BK209; have hnb33 := NB198_199.out; have hnc33 := NB199_198.out; have hnb34 := NB198_200.out; have hnc34 := NB200_198.out; obtain ⟨hcz35_0, hcz35_1, hcz35_2, hcz35_3, hcz35_4, hcz35_5, hfz35_0, hfz35_1, hfz35_2, hfz35_3, hfz35_4, hfz35_5⟩ := bc6 BK198) | ((with_reducible refine gate_dst (N := 53) rfl ?_); refine gl (some 53) Tryd.func16 #[.slice A0_4 l0_4.length c0_4, .int .i64 x7_2] ?_; (with_reducible refine (maquettelaw07_number.calls _ _ l0_4 x7_2 t210 _ ?side1 ?side2 A26.out).mono ?_); (case side1 => exact Kd.C_below HR0_4.out bel); (case side2 => exact HC0_4.out); rintro e w' ⟨rfl, ⟨nd, rfl⟩⟩; refine ⟨_, rfl, ?_⟩))
       (try simp only [Act.put, List.setIfInBounds_toArray, List.set_cons_zero, List.set_cons_succ])
       go_cut [60] (fun v60 wc => ∃ (kq : Nat) (x60_26 : Bool), v60 = .bool x60_26 ∧ Aside0 (maquettelaw07_Shape_Config.j2 kq (wrap64 (Int.tmod a0_0 8)) x7_2 t210 x60_26 a0_0 l0_1 l0_2 l0_3 l0_4 l0_5 x201000_1 x201001_2 t208 0 = some (r1, r2)) ∧ Aside0 (kq ≤ k2) ∧ Aside0 (Kd.S k36 36 wc w.heap.size (fun _ => True) u201000 x201000_1) ∧ Aside0 (Kd.S k46 46 wc w.heap.size (fun k_ => k_ ≠ gb209) u201001 x201001_2) ∧ Aside0 (wc.heap[gb198]? = some (.cells #[.int .u8 a0_0, (.slice A0_1 l0_1.length c0_1), (.slice A0_2 l0_2.length c0_2), (.slice A0_3 l0_3.length c0_3), (.slice A0_4 l0_4.length c0_4), (.slice A0_5 l0_5.length c0_5)] 25 (0, 0))) ∧ Aside0 (wc.heap[gb199]? = some (.cells #[(.slice none 0 0), (.slice none 0 0)] 30 (0, 0))) ∧ Aside0 (wc.heap[gb200]? = some (.cells #[u201000, u201001] 30 (0, 0))) ∧ Aside0 (wc.heap[gb209]? = some (.cells #[.string t208, (.slice none 0 0), (.slice none 0 0), (.slice none 0 0), .int .i64 0] 46 (0, 0))) ∧ Aside0 (Below w.heap.size w wc))
       case first =>
        have H := HC27.out
        clear HC27
        by_cases c36 : x7_2 = 0
        ·rw [if_pos c36] at H
         have c36b0 : (x7_2 == 0) = true := beq_iff_eq.mpr c36
         have c36b1 : (x7_2 != 0) = false := bne_eq_false_iff_eq.mpr c36
         clear c36
         (first | rw [c36b0] | (simp only [i64_w, i32_w]; rw [c36b0]) | skip)
         have H' := Aside0.mk H
         clear H
         go_wp2
         go_meet
         case rel => exact ⟨_, (true), (by first | rfl | (simp; done) | (simp [*]; done)), H', ⟨by have := HK1.out; have := HK2.out; first | omega | exact Nat.le_refl _⟩, ⟨by (with_reducible repeat (first | apply Kd.S_alloc | apply Kd.S_drewN | apply Kd.S_drew)); exact Kd.S_mono (Kd.S_far (p := ⟨gb209, 4, none⟩) (Kd.S_far (p := ⟨gb209, 3, none⟩) (Kd.S_far (p := ⟨gb209, 2, none⟩) (Kd.S_far (p := ⟨gb209, 1, none⟩) (Kd.S_far (p := ⟨gb209, 0, none⟩) (Kd.S_types HO_201000.out BK209.out (by decide)) (fun _ hk => hk.2) (.string t208)) (fun _ hk => hk.2) (.slice none 0 0)) (fun _ hk => hk.2) (.slice none 0 0)) (fun _ hk => hk.2) (.slice none 0 0)) (fun _ hk => hk.2) (.int .i64 0)) (fun _ hk => trivial)⟩, ⟨by (with_reducible repeat (first | apply Kd.S_alloc | apply Kd.S_drewN | apply Kd.S_drew)); exact Kd.S_mono (Kd.S_far (p := ⟨gb209, 4, none⟩) (Kd.S_far (p := ⟨gb209, 3, none⟩) (Kd.S_far (p := ⟨gb209, 2, none⟩) (Kd.S_far (p := ⟨gb209, 1, none⟩) (Kd.S_far (p := ⟨gb209, 0, none⟩) (Kd.S_mono HO_201001.out (fun k_ hk => (⟨hk, hk.2⟩ : _ ∧ k_ ≠ gb209))) (fun _ hk => hk.2) (.string t208)) (fun _ hk => hk.2) (.slice none 0 0)) (fun _ hk => hk.2) (.slice none 0 0)) (fun _ hk => hk.2) (.slice none 0 0)) (fun _ hk => hk.2) (.int .i64 0)) (fun _ hk => hk.1.2)⟩, ⟨bkq BK198⟩, ⟨bkq BK199⟩, ⟨bkq BK200⟩, ⟨bkp BK209⟩, ⟨by repeat (first | (with_reducible first | exact HB.out | apply below_alloc | apply pw_below_drewN | apply below_drew1 | refine below_set ?_ GE198.out | refine below_set ?_ GE199.out | refine below_set ?_ GE200.out | refine below_set ?_ GE209.out) | exact HB.out)⟩⟩
        ·rw [if_neg c36] at H
         have c36b0 : (x7_2 == 0) = false := beq_eq_false_iff_ne.mpr c36
         have c36b1 : (x7_2 != 0) = true := bne_iff_ne.mpr c36
         (first | rw [c36b0] | (simp only [i64_w, i32_w]; rw [c36b0]) | skip)
         have H' := Aside0.mk H
         clear H
         go_wp2
         go_meet
         case rel => exact ⟨_, (((Int.tmod t210 4) == 0)), (by first | rfl | (simp; done) | (simp [*]; done)), H', ⟨by have := HK1.out; have := HK2.out; first | omega | exact Nat.le_refl _⟩, ⟨by (with_reducible repeat (first | apply Kd.S_alloc | apply Kd.S_drewN | apply Kd.S_drew)); exact Kd.S_mono (Kd.S_far (p := ⟨gb209, 4, none⟩) (Kd.S_far (p := ⟨gb209, 3, none⟩) (Kd.S_far (p := ⟨gb209, 2, none⟩) (Kd.S_far (p := ⟨gb209, 1, none⟩) (Kd.S_far (p := ⟨gb209, 0, none⟩) (Kd.S_types HO_201000.out BK209.out (by decide)) (fun _ hk => hk.2) (.string t208)) (fun _ hk => hk.2) (.slice none 0 0)) (fun _ hk => hk.2) (.slice none 0 0)) (fun _ hk => hk.2) (.slice none 0 0)) (fun _ hk => hk.2) (.int .i64 0)) (fun _ hk => trivial)⟩, ⟨by (with_reducible repeat (first | apply Kd.S_alloc | apply Kd.S_drewN | apply Kd.S_drew)); exact Kd.S_mono (Kd.S_far (p := ⟨gb209, 4, none⟩) (Kd.S_far (p := ⟨gb209, 3, none⟩) (Kd.S_far (p := ⟨gb209, 2, none⟩) (Kd.S_far (p := ⟨gb209, 1, none⟩) (Kd.S_far (p := ⟨gb209, 0, none⟩) (Kd.S_mono HO_201001.out (fun k_ hk => (⟨hk, hk.2⟩ : _ ∧ k_ ≠ gb209))) (fun _ hk => hk.2) (.string t208)) (fun _ hk => hk.2) (.slice none 0 0)) (fun _ hk => hk.2) (.slice none 0 0)) (fun _ hk => hk.2) (.slice none 0 0)) (fun _ hk => hk.2) (.int .i64 0)) (fun _ hk => hk.1.2)⟩, ⟨bkq BK198⟩, ⟨bkq BK199⟩, ⟨bkq BK200⟩, ⟨bkp BK209⟩, ⟨by repeat (first | (with_reducible first | exact HB.out | apply below_alloc | apply pw_below_drewN | apply below_drew1 | refine below_set ?_ GE198.out | refine below_set ?_ GE199.out | refine below_set ?_ GE200.out | refine below_set ?_ GE209.out) | exact HB.out)⟩⟩
       case rest =>
        clear HC27
        try clear c1
        try clear c2
        try clear p2 p2
        try clear q2 q2
        try clear hx2
        try clear c3
        try clear p3 p3
        try clear c5
        try clear c6
        try clear p6 p6
        try clear c8
        try clear c8b0
        try clear c9
        try clear c9b0
        try clear c10
        try clear c10b0
        try clear c11
        try clear c11b0
        try clear c12
        try clear c12b0
        try clear c12b1
        try clear c12b2
        try clear c14
        try clear c15
        try clear c16
        try clear c20
        try clear p20 p20
        try clear q20 q20
        try clear hx20
        try clear c21
        try clear c22
        try clear c24
        try clear c24b0
        try clear c29
        try clear c30
        try clear c31
        try clear p32
        try clear c33
        try clear c34
        try clear c36
        try clear c36b0
        try clear c36b1
        try clear hcz23_0 hcz23_1 hcz23_2 hcz23_3 hcz23_4 hcz23_5 hfz23_0 hfz23_1 hfz23_2 hfz23_3 hfz23_4 hfz23_5
        try clear hcz32_0 hcz32_1 hcz32_2 hcz32_3 hcz32_4 hfz32_0 hfz32_1 hfz32_2 hfz32_3 hfz32_4
        try clear hcz35_0 hcz35_1 hcz35_2 hcz35_3 hcz35_4 hcz35_5 hfz35_0 hfz35_1 hfz35_2 hfz35_3 hfz35_4 hfz35_5
        try clear hcz7_0 hcz7_1 hcz7_2 hcz7_3 hcz7_4 hcz7_5 hfz7_0 hfz7_1 hfz7_2 hfz7_3 hfz7_4 hfz7_5
        try clear hx201_0
        try clear p201
        try clear q201
        obtain ⟨kq, x60_26, rfl, HA, HJ26, HO_201000, HO_201001, BK198, BK199, BK200, BK209, HB⟩ := hcut
        cases kq with
        | zero => exact absurd HA.out (by simp [maquettelaw07_Shape_Config.j2])
        | succ kj26 =>
         have H := HA.out
         clear HA
         simp only [maquettelaw07_Shape_Config.j2] at H
         have HC37 := Aside0.mk H
         clear H
         go_upto_if 60 with (fail)
         go_cut [] (fun wc => ∃ (kq : Nat) (x210001_36 : List (S39)) (u210001 : Value), Aside0 (maquettelaw07_Shape_Config.j3 kq (wrap64 (Int.tmod a0_0 8)) x7_2 a0_0 l0_1 l0_2 l0_3 l0_4 l0_5 x201000_1 x201001_2 t208 x210001_36 0 = some (r1, r2)) ∧ Aside0 (kq ≤ kj26) ∧ Aside0 (Kd.S k36 36 wc w.heap.size (fun _ => True) u201000 x201000_1) ∧ Aside0 (Kd.S k46 46 wc w.heap.size (fun k_ => some k_ ≠ (u210001 : Value).ownBlock ∧ k_ ≠ gb209) u201001 x201001_2) ∧ Aside0 (Kd.R k39 39 wc w.heap.size (fun _ => True) u210001 x210001_36) ∧ Aside0 (wc.heap[gb198]? = some (.cells #[.int .u8 a0_0, (.slice A0_1 l0_1.length c0_1), (.slice A0_2 l0_2.length c0_2), (.slice A0_3 l0_3.length c0_3), (.slice A0_4 l0_4.length c0_4), (.slice A0_5 l0_5.length c0_5)] 25 (0, 0))) ∧ Aside0 (wc.heap[gb199]? = some (.cells #[(.slice none 0 0), (.slice none 0 0)] 30 (0, 0))) ∧ Aside0 (wc.heap[gb200]? = some (.cells #[u201000, u201001] 30 (0, 0))) ∧ Aside0 (wc.heap[gb209]? = some (.cells #[.string t208, u210001, (.slice none 0 0), (.slice none 0 0), .int .i64 0] 46 (0, 0))) ∧ Aside0 (Below w.heap.size w wc))
         case first =>
          have H := HC37.out
          clear HC37
          by_cases c38 : x60_26 = true
          ·subst c38
           have H1 : ((maquettelaw05_Make.f kj26 ((t210) % 256)).bind fun bt211 => (if ([] : List (S39)).length < 8796093022208 then (maquettelaw07_Shape_Config.j3 kj26 (wrap64 (Int.tmod a0_0 8)) x7_2 a0_0 l0_1 l0_2 l0_3 l0_4 l0_5 x201000_1 x201001_2 t208 (([] : List (S39)) ++ [(⟨bt211.1, bt211.2⟩ : S39)]) 0) else (none))) = some (r1, r2) := by rw [if_pos rfl] at H; exact H
           clear H
           have H := H1
           clear H1
           replace H := Option.bind_eq_some_iff.mp H
           obtain ⟨⟨t211, t212⟩, A390, H⟩ := H
           replace H : (if ([] : List (S39)).length < 8796093022208 then (maquettelaw07_Shape_Config.j3 kj26 (wrap64 (Int.tmod a0_0 8)) x7_2 a0_0 l0_1 l0_2 l0_3 l0_4 l0_5 x201000_1 x201001_2 t208 (([] : List (S39)) ++ [(⟨t211, t212⟩ : S39)]) 0) else (none)) = some (r1, r2) := H
           have A39 := Aside0.mk A390
           clear A390
           by_cases c40 : ([] : List (S39)).length < 8796093022208
           ·rw [if_pos c40] at H
            have LMc40 := Aside0.mk c40
            clear c40
            obtain ⟨y213, hy213⟩ : ∃ y_ : List (S39), y_ = (([] : List (S39)) ++ [(⟨t211, t212⟩ : S39)]) := ⟨_, rfl⟩
            replace H : (maquettelaw07_Shape_Config.j3 kj26 (wrap64 (Int.tmod a0_0 8)) x7_2 a0_0 l0_1 l0_2 l0_3 l0_4 l0_5 x201000_1 x201001_2 t208 y213 0) = some (r1, r2) := by first | (rw [hy213]; with_reducible exact H) | (have H2_ := (Option.bind_some _ _).symm.trans H; rw [hy213]; with_reducible exact H2_) | (have H2_ := (Option.bind_some _ _).symm.trans H; with_reducible exact H2_) | with_reducible exact H | (rw [hy213]; exact H) | exact H
            have Ny213 := Aside0.mk hy213
            clear hy213
            have H' := Aside0.mk H
            clear H
            try go_wp2
            replace HO_201000 := Aside0.mk (Kd.S_drew HO_201000.out)
            replace HO_201001 := Aside0.mk (Kd.S_drew HO_201001.out)
            replace BK198 := Aside0.mk (blk_drew BK198.out)
            replace BK199 := Aside0.mk (blk_drew BK199.out)
            replace BK200 := Aside0.mk (blk_drew BK200.out)
            replace BK209 := Aside0.mk (blk_drew BK209.out)
            replace HB := Aside0.mk (below_drew1 HB.out)
            refine start_ (n := 9) (S := fun w' => CE5 w' gb209 (.string t208) (.slice none 0 0) (.slice none 0 0) (.slice none 0 0) (.int .i64 0)) (ds := [8]) #[false, false, false, false, false, false, false, false, false] (by kernel_rfl) rfl rfl (he5 BK209) (fun hHeld => ?_); refine with_tabW maquettelaw07_Shape_Config.tab15 maquettelaw07_Shape_Config.bits15 (fun HT_ HW_ => ?_)
            generalize wc.drew = w41 at HO_201000 HO_201001 BK198 BK199 BK200 BK209 HB hHeld ⊢
            refine pu HT_ 0 (some 61) (mk 9 1) ?_
            refine pu HT_ 2 (some 63) (mk 9 5) ?_
            refine pu HT_ 3 (some 64) (mk 9 13) ?_
            refine tk HT_ HW_ 1 (some 62) (mk 9 15) hHeld ?_
            refine on HT_ 4 (some 65) (mk 9 31) fun K hK => ?_
            refine go1 Tryd.func17 #[.int .u8 ((t210) % 256)] ?_
            with_reducible refine (maquettelaw05_Make.calls kj26 ((t210) % 256) t211 t212 _ A39.out).mono ?_
            rintro e w42 ⟨rfl, hb⟩
            refine ⟨_, rfl, ?_⟩
            replace HO_201000 := Aside0.mk (Kd.S_below (kS HO_201000) hb)
            replace HO_201001 := Aside0.mk (Kd.S_below (kS HO_201001) hb)
            replace BK198 := bkb BK198 hb
            replace BK199 := bkb BK199 hb
            replace BK200 := bkb BK200 hb
            replace BK209 := bkb BK209 hb
            replace HB := bst hb
            (try clear hb)
            (try clear hb2)
            (try clear hk)
            (try clear hi)
            refine hK.out _ _ (he5 BK209) (fun hHeld => ?_)
            clear hK K
            refine nm (some 65) ?_
            refine on HT_ 5 (some 66) (mk 9 63) fun K hK => ?_
            refine value_ (w1 := ?_) (v := ?_) (by rfl) rfl ?_ ?_
            rotate_left 2
            ·go_simp
             constructor
             ·rfl
             ·rfl
            refine hK.out _ _ ⟨(blk_cell (blk_alloc BK209.out _) 0).trans rfl, (blk_cell (blk_alloc BK209.out _) 1).trans rfl, (blk_cell (blk_alloc BK209.out _) 2).trans rfl, (blk_cell (blk_alloc BK209.out _) 3).trans rfl, (blk_cell (blk_alloc BK209.out _) 4).trans rfl⟩ (fun hHeld => ?_)
            clear hK K
            refine nm (some 66) ?_
            refine on HT_ 6 (some 67) (mk 9 127) fun K hK => ?_
            refine Kd.R_append_step k39 (w0 := w) w.heap.size (by rfl) (.tmp 62) (.tmp 66) 42 39 (.agg #[(.int .u32 0), (.int .i64 0)]) 16 rfl Tryd.underlying42 info39 rfl (by decide) (by omega) (.slice none 0 0) ([] : List (S39)) (⟨t211, t212⟩ : S39) [.int .u32 t211, .int .i64 t212] (fun _ => True) (fun _ => False) rfl rfl ?aP (fun _ hk => hk.elim) ?aF ?aO ?aB ?aS ?aL ?_
            (case aP => exact k39_mkM _ _ _ (⟨t211, t212⟩ : S39))
            (case aB => exact bel)
            (case aF => exact (fun _ _ => trivial))
            (case aO => exact ((Kd.R_nil _ _ _ _ (fun _ => True))))
            (case aS => exact (below_size bel))
            (case aL => have := LMc40.out; omega)
            intro v214 w43 ho hb hg hat
            rw [← Ny213.out] at ho
            have HO215 := Aside0.mk ho
            replace HO_201000 := Aside0.mk (Kd.S_grown (kS HO_201000) hg (fun _ _ => by simp [Value.ownBlock]))
            replace HO_201001 := Aside0.mk (Kd.S_after (Kd.S_apart_nil (kS HO_201001)) hg hat)
            replace BK198 := Aside0.mk (blk_grown (bkq BK198) hg (by simp [Value.ownBlock]))
            replace BK199 := Aside0.mk (blk_grown (bkq BK199) hg (by simp [Value.ownBlock]))
            replace BK200 := Aside0.mk (blk_grown (bkq BK200) hg (by simp [Value.ownBlock]))
            replace BK209 := Aside0.mk (blk_grown (bkq BK209) hg (by simp [Value.ownBlock]))
            replace HB := Aside0.mk (hb)
            clear ho hb hg hat
            obtain ⟨Ao44, co44, eo44⟩ := Kd.R_slice HO215.out
            (first | subst eo44 | (injection eo44 with f1_ f2_ f3_; have f4_ := f1_.symm; have f5_ := f3_.symm; clear f1_ f2_ f3_; subst f4_; subst f5_))
            refine hK.out _ _ (he5 BK209) (fun hHeld => ?_)
            clear hK K
            refine nm (some 67) ?_
            refine pu HT_ 7 (some 68) (mk 9 255) ?_
            refine la HT_ 8 (none) (mk 9 511) fun K hK => ?_
            have hs45 : w43.cell? ⟨gb209, 1, none⟩ = some (.slice none 0 0) := (blk_cell BK209.out 1).trans rfl
            have hfs45 := blk_frozen BK209.out 1
            have hns45_0 := NB198_209.out
            have hns45_1 := NB199_209.out
            have hns45_2 := NB200_209.out
            have hms45_0 := NB209_198.out
            have hms45_1 := NB209_199.out
            have hms45_2 := NB209_200.out
            refine skip_ (w1 := ?_) (by rfl) rfl ?_ ?_
            rotate_left
            ·go_simp
             rfl
            refine hK.out _ _ ?_
            clear hK K
            refine done_ (done_of HT_.out (by kernel_rfl)) ?_
            try go_wp2
            go_meet
            case rel => exact ⟨_, (y213), (.slice Ao44 y213.length co44), H', ⟨by have := HK1.out; have := HK2.out; have := HJ26.out; first | omega | exact Nat.le_refl _⟩, ⟨by (with_reducible repeat (first | apply Kd.S_alloc | apply Kd.S_drewN | apply Kd.S_drew)); exact Kd.S_mono (Kd.S_far (p := ⟨gb209, 1, none⟩) (Kd.S_types HO_201000.out BK209.out (by decide)) (fun _ hk => hk.2) (.slice Ao44 y213.length co44)) (fun _ hk => trivial)⟩, ⟨by (with_reducible repeat (first | apply Kd.S_alloc | apply Kd.S_drewN | apply Kd.S_drew)); exact Kd.S_mono (Kd.S_far (p := ⟨gb209, 1, none⟩) (Kd.S_mono HO_201001.out (fun k_ hk => (⟨hk, hk.1⟩ : _ ∧ k_ ≠ gb209))) (fun _ hk => hk.2) (.slice Ao44 y213.length co44)) (fun _ hk => ⟨hk.1.2, hk.1.1⟩)⟩, ⟨by (with_reducible repeat (first | apply Kd.R_alloc | apply Kd.R_drewN | apply Kd.R_drew)); exact Kd.R_mono (Kd.R_far (p := ⟨gb209, 1, none⟩) (Kd.R_types HO215.out BK209.out (by decide)) (fun _ hk => hk.2) (.slice Ao44 y213.length co44)) (fun _ hk => trivial)⟩, ⟨bkq BK198⟩, ⟨bkq BK199⟩, ⟨bkq BK200⟩, ⟨bkp BK209⟩, ⟨by repeat (first | (with_reducible first | exact HB.out | apply below_alloc | apply pw_below_drewN | apply below_drew1 | refine below_set ?_ GE198.out | refine below_set ?_ GE199.out | refine below_set ?_ GE200.out | refine below_set ?_ GE209.out) | exact HB.out)⟩⟩
           ·rw [if_neg c40] at H
            exact absurd H (by simp)
          ·replace c38 := Bool.eq_false_iff.mpr c38
           subst c38
           have H1 : (maquettelaw07_Shape_Config.j3 kj26 (wrap64 (Int.tmod a0_0 8)) x7_2 a0_0 l0_1 l0_2 l0_3 l0_4 l0_5 x201000_1 x201001_2 t208 ([] : List (S39)) 0) = some (r1, r2) := by rw [if_neg (show ¬ (false = true) by decide)] at H; exact H
           clear H
           have H := H1
           clear H1
           have H' := Aside0.mk H
           clear H
           go_wp2
           go_meet
           case rel => exact ⟨_, (([] : List (S39))), (.slice none 0 0), H', ⟨by have := HK1.out; have := HK2.out; have := HJ26.out; first | omega | exact Nat.le_refl _⟩, ⟨by (with_reducible repeat (first | apply Kd.S_alloc | apply Kd.S_drewN | apply Kd.S_drew)); exact HO_201000.out⟩, ⟨by (with_reducible repeat (first | apply Kd.S_alloc | apply Kd.S_drewN | apply Kd.S_drew)); exact Kd.S_mono HO_201001.out (fun _ hk => ⟨(by simp [Value.ownBlock]), hk⟩)⟩, ⟨by first | exact Kd.R_nil _ _ _ _ _ | exact Kd.N_nil _ _ _ _ _ | exact Kd.V_nil _ _ _ _ _ | exact Kd.Q_nil _ _ _ _ _ | exact Kd.S_nil _ _ _ _ _⟩, ⟨bkq BK198⟩, ⟨bkq BK199⟩, ⟨bkq BK200⟩, ⟨bkq BK209⟩, ⟨by repeat (first | (with_reducible first | exact HB.out | apply below_alloc | apply pw_below_drewN | apply below_drew1 | refine below_set ?_ GE198.out | refine below_set ?_ GE199.out | refine below_set ?_ GE200.out | refine below_set ?_ GE209.out) | exact HB.out)⟩⟩
         case rest =>
          clear HC37
          try clear c1
          try clear c2
          try clear p2 p2
          try clear q2 q2
          try clear hx2
          try clear c3
          try clear p3 p3
          try clear c4
          try clear c5
          try clear c6
          try clear p6 p6
          try clear c8
          try clear c8b0
          try clear c9
          try clear c9b0
          try clear c10
          try clear c10b0
          try clear c11
          try clear c11b0
          try clear c12
          try clear c12b0
          try clear c12b1
          try clear c12b2
          try clear c14
          try clear c15
          try clear c16
          try clear c17
          try clear c20
          try clear p20 p20
          try clear q20 q20
          try clear hx20
          try clear c21
          try clear c22
          try clear c24
          try clear c24b0
          try clear c29
          try clear c30
          try clear c31
          try clear p32 p32
          try clear c33
          try clear c34
          try clear c36
          try clear c36b0
          try clear c36b1
          try clear c38
          try clear c40
          try clear hcz23_0 hcz23_1 hcz23_2 hcz23_3 hcz23_4 hcz23_5 hfz23_0 hfz23_1 hfz23_2 hfz23_3 hfz23_4 hfz23_5
          try clear hcz32_0 hcz32_1 hcz32_2 hcz32_3 hcz32_4 hfz32_0 hfz32_1 hfz32_2 hfz32_3 hfz32_4
          try clear hcz35_0 hcz35_1 hcz35_2 hcz35_3 hcz35_4 hcz35_5 hfz35_0 hfz35_1 hfz35_2 hfz35_3 hfz35_4 hfz35_5
          try clear hcz7_0 hcz7_1 hcz7_2 hcz7_3 hcz7_4 hcz7_5 hfz7_0 hfz7_1 hfz7_2 hfz7_3 hfz7_4 hfz7_5
          try clear hx201_0
          try clear p201
          try clear q201
          obtain ⟨kq, x210001_36, u210001, HA, HJ36, HO_201000, HO_201001, HO_210001, BK198, BK199, BK200, BK209, HB⟩ := hcut
          cases kq with
          | zero => exact absurd HA.out (by simp [maquettelaw07_Shape_Config.j3])
          | succ kj36 =>
           have H := HA.out
           clear HA
           simp only [maquettelaw07_Shape_Config.j3] at H
           have H' := Aside0.mk H
           clear H
           go_wp2
           go_loopg [10] kj36 (fun kq v10 w' => ∃ (x10_5 : Int) (x210002_5 : List (S48)) (u210002 : Value), v10 = .int .i64 x10_5 ∧ Aside0 (maquettelaw07_Shape_Config.l2 kq (wrap64 (Int.tmod a0_0 8)) x7_2 x10_5 a0_0 l0_1 l0_2 l0_3 l0_4 l0_5 x201000_1 x201001_2 t208 x210001_36 x210002_5 0 = some (r1, r2)) ∧ Aside0 (kq ≤ kj36) ∧ Aside0 (Kd.S k36 36 w' w.heap.size (fun _ => True) u201000 x201000_1) ∧ Aside0 (Kd.S k46 46 w' w.heap.size (fun k_ => some k_ ≠ (u210001 : Value).ownBlock ∧ some k_ ≠ (u210002 : Value).ownBlock ∧ k_ ≠ gb209) u201001 x201001_2) ∧ Aside0 (Kd.R k39 39 w' w.heap.size (fun _ => True) u210001 x210001_36) ∧ Aside0 (Kd.R k48 48 w' w.heap.size (fun _ => True) u210002 x210002_5) ∧ Aside0 (w'.heap[gb198]? = some (.cells #[.int .u8 a0_0, (.slice A0_1 l0_1.length c0_1), (.slice A0_2 l0_2.length c0_2), (.slice A0_3 l0_3.length c0_3), (.slice A0_4 l0_4.length c0_4), (.slice A0_5 l0_5.length c0_5)] 25 (0, 0))) ∧ Aside0 (w'.heap[gb199]? = some (.cells #[(.slice none 0 0), (.slice none 0 0)] 30 (0, 0))) ∧ Aside0 (w'.heap[gb200]? = some (.cells #[u201000, u201001] 30 (0, 0))) ∧ Aside0 (w'.heap[gb209]? = some (.cells #[.string t208, u210001, u210002, (.slice none 0 0), .int .i64 0] 46 (0, 0))) ∧ Aside0 (Below w.heap.size w w'))
           case atStart => exact ⟨(0), (([] : List (S48))), (.slice none 0 0), (by first | rfl | (simp; done) | (simp [*]; done)), H', ⟨Nat.le_refl _⟩, ⟨by (with_reducible repeat (first | apply Kd.S_alloc | apply Kd.S_drewN | apply Kd.S_drew)); exact HO_201000.out⟩, ⟨by (with_reducible repeat (first | apply Kd.S_alloc | apply Kd.S_drewN | apply Kd.S_drew)); exact Kd.S_mono HO_201001.out (fun _ hk => ⟨hk.1, ⟨(by simp [Value.ownBlock]), hk.2⟩⟩)⟩, ⟨by (with_reducible repeat (first | apply Kd.R_alloc | apply Kd.R_drewN | apply Kd.R_drew)); exact HO_210001.out⟩, ⟨by first | exact Kd.R_nil _ _ _ _ _ | exact Kd.N_nil _ _ _ _ _ | exact Kd.V_nil _ _ _ _ _ | exact Kd.Q_nil _ _ _ _ _ | exact Kd.S_nil _ _ _ _ _⟩, ⟨bkq BK198⟩, ⟨bkq BK199⟩, ⟨bkq BK200⟩, ⟨bkq BK209⟩, ⟨by repeat (first | (with_reducible first | exact HB.out | apply below_alloc | apply pw_below_drewN | apply below_drew1 | refine below_set ?_ GE198.out | refine below_set ?_ GE199.out | refine below_set ?_ GE200.out | refine below_set ?_ GE209.out) | exact HB.out)⟩⟩
           case round =>
            clear H'
            try clear c1
            try clear c2
            try clear p2 p2
            try clear q2 q2
            try clear hx2
            try clear c3
            try clear p3 p3
            try clear c4
            try clear c5
            try clear c6
            try clear p6 p6
            try clear c8
            try clear c8b0
            try clear c9
            try clear c9b0
            try clear c10
            try clear c10b0
            try clear c11
            try clear c11b0
            try clear c12
            try clear c12b0
            try clear c12b1
            try clear c12b2
            try clear c14
            try clear c15
            try clear c16
            try clear c17
            try clear c20
            try clear p20 p20
            try clear q20 q20
            try clear hx20
            try clear c21
            try clear c22
            try clear c24
            try clear c24b0
            try clear c29
            try clear c30
            try clear c31
            try clear p32 p32
            try clear c33
            try clear c34
            try clear c36
            try clear c36b0
            try clear c36b1
            try clear c38
            try clear c40
            try clear hcz23_0 hcz23_1 hcz23_2 hcz23_3 hcz23_4 hcz23_5 hfz23_0 hfz23_1 hfz23_2 hfz23_3 hfz23_4 hfz23_5
            try clear hcz32_0 hcz32_1 hcz32_2 hcz32_3 hcz32_4 hfz32_0 hfz32_1 hfz32_2 hfz32_3 hfz32_4
            try clear hcz35_0 hcz35_1 hcz35_2 hcz35_3 hcz35_4 hcz35_5 hfz35_0 hfz35_1 hfz35_2 hfz35_3 hfz35_4 hfz35_5
            try clear hcz7_0 hcz7_1 hcz7_2 hcz7_3 hcz7_4 hcz7_5 hfz7_0 hfz7_1 hfz7_2 hfz7_3 hfz7_4 hfz7_5
            try clear hx201_0
            try clear p201
            try clear q201
            obtain ⟨x10_5, x210002_5, u210002, rfl, HA, HK5, HO_201000, HO_201001, HO_210001, HO_210002, BK198, BK199, BK200, BK209, HB⟩ := hrel
            cases gk with
            | zero => exact absurd HA.out (by simp [maquettelaw07_Shape_Config.l2])
            | succ k5 =>
             have H := HA.out
             clear HA
             simp only [maquettelaw07_Shape_Config.l2] at H
             by_cases c46 : x10_5 < (wrap64 (Int.tmod a0_0 8))
             ·rw [if_pos c46] at H
              have c46b0 := decide_eq_true c46
              clear c46
              obtain ⟨ji47, hji47⟩ : ∃ j_ : Int, (mn x10_5 x7_2) = j_ := ⟨_, rfl⟩
              replace H : (if x10_5 = x7_2 then (maquettelaw07_Shape_Config.j5 k5 (wrap64 (Int.tmod a0_0 8)) x7_2 x10_5 (wrap64 ((wrap64 ((ji47) * (wrap64 (Int.tmod a0_0 8)))) + (mx x10_5 x7_2))) false a0_0 l0_1 l0_2 l0_3 l0_4 l0_5 x201000_1 x201001_2 t208 x210001_36 x210002_5 0) else ((maquettelaw07_number.f l0_1 (wrap64 ((wrap64 ((ji47) * (wrap64 (Int.tmod a0_0 8)))) + (mx x10_5 x7_2)))).bind fun t216 => (if (Int.tmod t216 3) > 0 then (maquettelaw07_Shape_Config.j5 k5 (wrap64 (Int.tmod a0_0 8)) x7_2 x10_5 (wrap64 ((wrap64 ((ji47) * (wrap64 (Int.tmod a0_0 8)))) + (mx x10_5 x7_2))) true a0_0 l0_1 l0_2 l0_3 l0_4 l0_5 x201000_1 x201001_2 t208 x210001_36 x210002_5 0) else (if x10_5 = (wrap64 (x7_2 + 1)) then (maquettelaw07_Shape_Config.j5 k5 (wrap64 (Int.tmod a0_0 8)) x7_2 x10_5 (wrap64 ((wrap64 ((ji47) * (wrap64 (Int.tmod a0_0 8)))) + (mx x10_5 x7_2))) true a0_0 l0_1 l0_2 l0_3 l0_4 l0_5 x201000_1 x201001_2 t208 x210001_36 x210002_5 0) else (maquettelaw07_Shape_Config.j5 k5 (wrap64 (Int.tmod a0_0 8)) x7_2 x10_5 (wrap64 ((wrap64 ((ji47) * (wrap64 (Int.tmod a0_0 8)))) + (mx x10_5 x7_2))) (x7_2 == (wrap64 (x10_5 + 1))) a0_0 l0_1 l0_2 l0_3 l0_4 l0_5 x201000_1 x201001_2 t208 x210001_36 x210002_5 0))))) = some (r1, r2) := by first | (rw [hji47] at H; exact H) | (simp only [hji47] at H ⊢; exact H)
              have hji47_ : (if x7_2 < x10_5 then x7_2 else x10_5) = ji47 := hji47
              obtain ⟨ji48, hji48⟩ : ∃ j_ : Int, (mx x10_5 x7_2) = j_ := ⟨_, rfl⟩
              replace H : (if x10_5 = x7_2 then (maquettelaw07_Shape_Config.j5 k5 (wrap64 (Int.tmod a0_0 8)) x7_2 x10_5 (wrap64 ((wrap64 ((ji47) * (wrap64 (Int.tmod a0_0 8)))) + (ji48))) false a0_0 l0_1 l0_2 l0_3 l0_4 l0_5 x201000_1 x201001_2 t208 x210001_36 x210002_5 0) else ((maquettelaw07_number.f l0_1 (wrap64 ((wrap64 ((ji47) * (wrap64 (Int.tmod a0_0 8)))) + (ji48)))).bind fun t216 => (if (Int.tmod t216 3) > 0 then (maquettelaw07_Shape_Config.j5 k5 (wrap64 (Int.tmod a0_0 8)) x7_2 x10_5 (wrap64 ((wrap64 ((ji47) * (wrap64 (Int.tmod a0_0 8)))) + (ji48))) true a0_0 l0_1 l0_2 l0_3 l0_4 l0_5 x201000_1 x201001_2 t208 x210001_36 x210002_5 0) else (if x10_5 = (wrap64 (x7_2 + 1)) then (maquettelaw07_Shape_Config.j5 k5 (wrap64 (Int.tmod a0_0 8)) x7_2 x10_5 (wrap64 ((wrap64 ((ji47) * (wrap64 (Int.tmod a0_0 8)))) + (ji48))) true a0_0 l0_1 l0_2 l0_3 l0_4 l0_5 x201000_1 x201001_2 t208 x210001_36 x210002_5 0) else (maquettelaw07_Shape_Config.j5 k5 (wrap64 (Int.tmod a0_0 8)) x7_2 x10_5 (wrap64 ((wrap64 ((ji47) * (wrap64 (Int.tmod a0_0 8)))) + (ji48))) (x7_2 == (wrap64 (x10_5 + 1))) a0_0 l0_1 l0_2 l0_3 l0_4 l0_5 x201000_1 x201001_2 t208 x210001_36 x210002_5 0))))) = some (r1, r2) := by first | (rw [hji48] at H; exact H) | (simp only [hji48] at H ⊢; exact H)
              have hji48_ : (if x10_5 < x7_2 then x7_2 else x10_5) = ji48 := hji48
              have HC49 := Aside0.mk H
              clear H
              go_upto_region 20 with (fail)
              go_cut [105] (fun v105 wc => ∃ (kq : Nat) (x105_48 : Bool), v105 = .bool x105_48 ∧ Aside0 (maquettelaw07_Shape_Config.j5 kq (wrap64 (Int.tmod a0_0 8)) x7_2 x10_5 (wrap64 ((wrap64 ((ji47) * (wrap64 (Int.tmod a0_0 8)))) + (ji48))) x105_48 a0_0 l0_1 l0_2 l0_3 l0_4 l0_5 x201000_1 x201001_2 t208 x210001_36 x210002_5 0 = some (r1, r2)) ∧ Aside0 (kq ≤ k5) ∧ Aside0 (Kd.S k36 36 wc w.heap.size (fun _ => True) u201000 x201000_1) ∧ Aside0 (Kd.S k46 46 wc w.heap.size (fun k_ => some k_ ≠ (u210001 : Value).ownBlock ∧ some k_ ≠ (u210002 : Value).ownBlock ∧ k_ ≠ gb209) u201001 x201001_2) ∧ Aside0 (Kd.R k39 39 wc w.heap.size (fun _ => True) u210001 x210001_36) ∧ Aside0 (Kd.R k48 48 wc w.heap.size (fun _ => True) u210002 x210002_5) ∧ Aside0 (wc.heap[gb198]? = some (.cells #[.int .u8 a0_0, (.slice A0_1 l0_1.length c0_1), (.slice A0_2 l0_2.length c0_2), (.slice A0_3 l0_3.length c0_3), (.slice A0_4 l0_4.length c0_4), (.slice A0_5 l0_5.length c0_5)] 25 (0, 0))) ∧ Aside0 (wc.heap[gb199]? = some (.cells #[(.slice none 0 0), (.slice none 0 0)] 30 (0, 0))) ∧ Aside0 (wc.heap[gb200]? = some (.cells #[u201000, u201001] 30 (0, 0))) ∧ Aside0 (wc.heap[gb209]? = some (.cells #[.string t208, u210001, u210002, (.slice none 0 0), .int .i64 0] 46 (0, 0))) ∧ Aside0 (Below w.heap.size w wc))
              case first =>
               have H := HC49.out
               clear HC49
               by_cases c50 : x10_5 = x7_2
               ·rw [if_pos c50] at H
                have c50b0 : (x10_5 == x7_2) = true := beq_iff_eq.mpr c50
                have c50b1 : (x10_5 != x7_2) = false := bne_eq_false_iff_eq.mpr c50
                clear c50
                (first | rw [c50b0] | (simp only [i64_w, i32_w]; rw [c50b0]) | skip)
                have H' := Aside0.mk H
                clear H
                go_wp2
                go_meet
                case rel => exact ⟨_, (false), (by first | rfl | (simp; done) | (simp [*]; done)), H', ⟨by have := HK1.out; have := HK2.out; have := HJ26.out; have := HJ36.out; have := HK5.out; first | omega | exact Nat.le_refl _⟩, ⟨by (with_reducible repeat (first | apply Kd.S_alloc | apply Kd.S_drewN | apply Kd.S_drew)); exact HO_201000.out⟩, ⟨by (with_reducible repeat (first | apply Kd.S_alloc | apply Kd.S_drewN | apply Kd.S_drew)); exact HO_201001.out⟩, ⟨by (with_reducible repeat (first | apply Kd.R_alloc | apply Kd.R_drewN | apply Kd.R_drew)); exact HO_210001.out⟩, ⟨by (with_reducible repeat (first | apply Kd.R_alloc | apply Kd.R_drewN | apply Kd.R_drew)); exact HO_210002.out⟩, ⟨bkq BK198⟩, ⟨bkq BK199⟩, ⟨bkq BK200⟩, ⟨bkq BK209⟩, ⟨by repeat (first | (with_reducible first | exact HB.out | apply below_alloc | apply pw_below_drewN | apply below_drew1 | refine below_set ?_ GE198.out | refine below_set ?_ GE199.out | refine below_set ?_ GE200.out | refine below_set ?_ GE209.out) | exact HB.out)⟩⟩
               ·rw [if_neg c50] at H
                have c50b0 : (x10_5 == x7_2) = false := beq_eq_false_iff_ne.mpr c50
                have c50b1 : (x10_5 != x7_2) = true := bne_iff_ne.mpr c50
                (first | rw [c50b0] | (simp only [i64_w, i32_w]; rw [c50b0]) | skip)
                replace H := Option.bind_eq_some_iff.mp H
                obtain ⟨t216, A510, H⟩ := H
                replace H : (if (Int.tmod t216 3) > 0 then (maquettelaw07_Shape_Config.j5 k5 (wrap64 (Int.tmod a0_0 8)) x7_2 x10_5 (wrap64 ((wrap64 ((ji47) * (wrap64 (Int.tmod a0_0 8)))) + (ji48))) true a0_0 l0_1 l0_2 l0_3 l0_4 l0_5 x201000_1 x201001_2 t208 x210001_36 x210002_5 0) else (if x10_5 = (wrap64 (x7_2 + 1)) then (maquettelaw07_Shape_Config.j5 k5 (wrap64 (Int.tmod a0_0 8)) x7_2 x10_5 (wrap64 ((wrap64 ((ji47) * (wrap64 (Int.tmod a0_0 8)))) + (ji48))) true a0_0 l0_1 l0_2 l0_3 l0_4 l0_5 x201000_1 x201001_2 t208 x210001_36 x210002_5 0) else (maquettelaw07_Shape_Config.j5 k5 (wrap64 (Int.tmod a0_0 8)) x7_2 x10_5 (wrap64 ((wrap64 ((ji47) * (wrap64 (Int.tmod a0_0 8)))) + (ji48))) (x7_2 == (wrap64 (x10_5 + 1))) a0_0 l0_1 l0_2 l0_3 l0_4 l0_5 x201000_1 x201001_2 t208 x210001_36 x210002_5 0))) = some (r1, r2) := H
                have A51 := Aside0.mk A510
                clear A510
                by_cases c52 : (Int.tmod t216 3) > 0
                ·rw [if_pos c52] at H
                 have c52b0 := decide_eq_true c52
                 clear c52
                 have H' := Aside0.mk H
                 clear H
                 have hnb53 := NB198_199.out
                 have hnc53 := NB199_198.out
                 have hnb54 := NB198_200.out
                 have hnc54 := NB200_198.out
                 have hnb55 := NB198_209.out
                 have hnc55 := NB209_198.out
                 obtain ⟨hcz56_0, hcz56_1, hcz56_2, hcz56_3, hcz56_4, hcz56_5, hfz56_0, hfz56_1, hfz56_2, hfz56_3, hfz56_4, hfz56_5⟩ := bc6 BK198
                 go_wp2_with (first | (go_at_call 16; (with_reducible refine (maquettelaw07_number.calls _ _ l0_1 (wrap64 ((wrap64 ((ji47) * (wrap64 (Int.tmod a0_0 8)))) + (ji48))) t216 _ ?side1 ?side2 A51.out).mono ?_); (case side1 => exact kcb HR0_1); (case side2 => exact HC0_1.out); rintro e w' ⟨rfl, ⟨nd, rfl⟩⟩))
                 go_meet
                 case rel => exact ⟨_, (true), (by first | rfl | (simp; done) | (simp [*]; done)), H', ⟨by have := HK1.out; have := HK2.out; have := HJ26.out; have := HJ36.out; have := HK5.out; first | omega | exact Nat.le_refl _⟩, ⟨by (with_reducible repeat (first | apply Kd.S_alloc | apply Kd.S_drewN | apply Kd.S_drew)); exact HO_201000.out⟩, ⟨by (with_reducible repeat (first | apply Kd.S_alloc | apply Kd.S_drewN | apply Kd.S_drew)); exact HO_201001.out⟩, ⟨by (with_reducible repeat (first | apply Kd.R_alloc | apply Kd.R_drewN | apply Kd.R_drew)); exact HO_210001.out⟩, ⟨by (with_reducible repeat (first | apply Kd.R_alloc | apply Kd.R_drewN | apply Kd.R_drew)); exact HO_210002.out⟩, ⟨bkq BK198⟩, ⟨bkq BK199⟩, ⟨bkq BK200⟩, ⟨bkq BK209⟩, ⟨by repeat (first | (with_reducible first | exact HB.out | apply below_alloc | apply pw_below_drewN | apply below_drew1 | refine below_set ?_ GE198.out | refine below_set ?_ GE199.out | refine below_set ?_ GE200.out | refine below_set ?_ GE209.out) | exact HB.out)⟩⟩
                ·rw [if_neg c52] at H
                 have c52b0 := decide_eq_false c52
                 clear c52
                 by_cases c57 : x10_5 = (wrap64 (x7_2 + 1))
                 ·rw [if_pos c57] at H
                  have c57b0 : (x10_5 == (wrap64 (x7_2 + 1))) = true := beq_iff_eq.mpr c57
                  have c57b1 : (x10_5 != (wrap64 (x7_2 + 1))) = false := bne_eq_false_iff_eq.mpr c57
                  clear c57
                  have H' := Aside0.mk H
                  clear H
                  have hnb58 := NB198_199.out
                  have hnc58 := NB199_198.out
                  have hnb59 := NB198_200.out
                  have hnc59 := NB200_198.out
                  have hnb60 := NB198_209.out
                  have hnc60 := NB209_198.out
                  obtain ⟨hcz61_0, hcz61_1, hcz61_2, hcz61_3, hcz61_4, hcz61_5, hfz61_0, hfz61_1, hfz61_2, hfz61_3, hfz61_4, hfz61_5⟩ := bc6 BK198
                  go_wp2_with (first | (go_at_call 16; (with_reducible refine (maquettelaw07_number.calls _ _ l0_1 (wrap64 ((wrap64 ((ji47) * (wrap64 (Int.tmod a0_0 8)))) + (ji48))) t216 _ ?side1 ?side2 A51.out).mono ?_); (case side1 => exact kcb HR0_1); (case side2 => exact HC0_1.out); rintro e w' ⟨rfl, ⟨nd, rfl⟩⟩))
                  go_meet
                  case rel => exact ⟨_, (true), (by first | rfl | (simp; done) | (simp [*]; done)), H', ⟨by have := HK1.out; have := HK2.out; have := HJ26.out; have := HJ36.out; have := HK5.out; first | omega | exact Nat.le_refl _⟩, ⟨by (with_reducible repeat (first | apply Kd.S_alloc | apply Kd.S_drewN | apply Kd.S_drew)); exact HO_201000.out⟩, ⟨by (with_reducible repeat (first | apply Kd.S_alloc | apply Kd.S_drewN | apply Kd.S_drew)); exact HO_201001.out⟩, ⟨by (with_reducible repeat (first | apply Kd.R_alloc | apply Kd.R_drewN | apply Kd.R_drew)); exact HO_210001.out⟩, ⟨by (with_reducible repeat (first | apply Kd.R_alloc | apply Kd.R_drewN | apply Kd.R_drew)); exact HO_210002.out⟩, ⟨bkq BK198⟩, ⟨bkq BK199⟩, ⟨bkq BK200⟩, ⟨bkq BK209⟩, ⟨by repeat (first | (with_reducible first | exact HB.out | apply below_alloc | apply pw_below_drewN | apply below_drew1 | refine below_set ?_ GE198.out | refine below_set ?_ GE199.out | refine below_set ?_ GE200.out | refine below_set ?_ GE209.out) | exact HB.out)⟩⟩
                 ·rw [if_neg c57] at H
                  have c57b0 : (x10_5 == (wrap64 (x7_2 + 1))) = false := beq_eq_false_iff_ne.mpr c57
                  have c57b1 : (x10_5 != (wrap64 (x7_2 + 1))) = true := bne_iff_ne.mpr c57
                  have H' := Aside0.mk H
                  clear H
                  have hnb62 := NB198_199.out
                  have hnc62 := NB199_198.out
                  have hnb63 := NB198_200.out
                  have hnc63 := NB200_198.out
                  have hnb64 := NB198_209.out
                  have hnc64 := NB209_198.out
                  obtain ⟨hcz65_0, hcz65_1, hcz65_2, hcz65_3, hcz65_4, hcz65_5, hfz65_0, hfz65_1, hfz65_2, hfz65_3, hfz65_4, hfz65_5⟩ := bc6 BK198
                  go_wp2_with (first | (go_at_call 16; (with_reducible refine (maquettelaw07_number.calls _ _ l0_1 (wrap64 ((wrap64 ((ji47) * (wrap64 (Int.tmod a0_0 8)))) + (ji48))) t216 _ ?side1 ?side2 A51.out).mono ?_); (case side1 => exact kcb HR0_1); (case side2 => exact HC0_1.out); rintro e w' ⟨rfl, ⟨nd, rfl⟩⟩))
                  go_meet
                  case rel => exact ⟨_, ((x7_2 == (wrap64 (x10_5 + 1)))), (by first | rfl | (simp; done) | (simp [*]; done)), H', ⟨by have := HK1.out; have := HK2.out; have := HJ26.out; have := HJ36.out; have := HK5.out; first | omega | exact Nat.le_refl _⟩, ⟨by (with_reducible repeat (first | apply Kd.S_alloc | apply Kd.S_drewN | apply Kd.S_drew)); exact HO_201000.out⟩, ⟨by (with_reducible repeat (first | apply Kd.S_alloc | apply Kd.S_drewN | apply Kd.S_drew)); exact HO_201001.out⟩, ⟨by (with_reducible repeat (first | apply Kd.R_alloc | apply Kd.R_drewN | apply Kd.R_drew)); exact HO_210001.out⟩, ⟨by (with_reducible repeat (first | apply Kd.R_alloc | apply Kd.R_drewN | apply Kd.R_drew)); exact HO_210002.out⟩, ⟨bkq BK198⟩, ⟨bkq BK199⟩, ⟨bkq BK200⟩, ⟨bkq BK209⟩, ⟨by repeat (first | (with_reducible first | exact HB.out | apply below_alloc | apply pw_below_drewN | apply below_drew1 | refine below_set ?_ GE198.out | refine below_set ?_ GE199.out | refine below_set ?_ GE200.out | refine below_set ?_ GE209.out) | exact HB.out)⟩⟩
              case rest =>
               clear HC49
               try clear c1
               try clear c2
               try clear p2 p2
               try clear q2 q2
               try clear hx2
               try clear c3
               try clear p3 p3
               try clear c4
               try clear c5
               try clear c6
               try clear p6 p6
               try clear c8
               try clear c8b0
               try clear c9
               try clear c9b0
               try clear c10
               try clear c10b0
               try clear c11
               try clear c11b0
               try clear c12
               try clear c12b0
               try clear c12b1
               try clear c12b2
               try clear c14
               try clear c15
               try clear c16
               try clear c17
               try clear c20
               try clear p20 p20
               try clear q20 q20
               try clear hx20
               try clear c21
               try clear c22
               try clear c24
               try clear c24b0
               try clear c29
               try clear c30
               try clear c31
               try clear p32 p32
               try clear c33
               try clear c34
               try clear c36
               try clear c36b0
               try clear c36b1
               try clear c38
               try clear c40
               try clear c46
               try clear c46b0
               try clear c50
               try clear c50b0
               try clear c50b1
               try clear c52
               try clear c52b0
               try clear c53
               try clear c54
               try clear c55
               try clear c57
               try clear c57b0
               try clear c57b1
               try clear c58
               try clear c59
               try clear c60
               try clear c62
               try clear c63
               try clear c64
               try clear p64
               try clear hcz23_0 hcz23_1 hcz23_2 hcz23_3 hcz23_4 hcz23_5 hfz23_0 hfz23_1 hfz23_2 hfz23_3 hfz23_4 hfz23_5
               try clear hcz32_0 hcz32_1 hcz32_2 hcz32_3 hcz32_4 hfz32_0 hfz32_1 hfz32_2 hfz32_3 hfz32_4
               try clear hcz35_0 hcz35_1 hcz35_2 hcz35_3 hcz35_4 hcz35_5 hfz35_0 hfz35_1 hfz35_2 hfz35_3 hfz35_4 hfz35_5
               try clear hcz56_0 hcz56_1 hcz56_2 hcz56_3 hcz56_4 hcz56_5 hfz56_0 hfz56_1 hfz56_2 hfz56_3 hfz56_4 hfz56_5
               try clear hcz61_0 hcz61_1 hcz61_2 hcz61_3 hcz61_4 hcz61_5 hfz61_0 hfz61_1 hfz61_2 hfz61_3 hfz61_4 hfz61_5
               try clear hcz65_0 hcz65_1 hcz65_2 hcz65_3 hcz65_4 hcz65_5 hfz65_0 hfz65_1 hfz65_2 hfz65_3 hfz65_4 hfz65_5
               try clear hcz7_0 hcz7_1 hcz7_2 hcz7_3 hcz7_4 hcz7_5 hfz7_0 hfz7_1 hfz7_2 hfz7_3 hfz7_4 hfz7_5
               try clear hx201_0
               try clear p201
               try clear q201
               obtain ⟨kq, x105_48, rfl, HA, HJ48, HO_201000, HO_201001, HO_210001, HO_210002, BK198, BK199, BK200, BK209, HB⟩ := hcut
               cases kq with
               | zero => exact absurd HA.out (by simp [maquettelaw07_Shape_Config.j5])
               | succ kj48 =>
                have H := HA.out
                clear HA
                simp only [maquettelaw07_Shape_Config.j5] at H
                by_cases c66 : x105_48 = true
                ·subst c66
                 have H1 : ((maquettelaw07_number.f l0_3 (wrap64 ((wrap64 (x7_2 * (wrap64 (Int.tmod a0_0 8)))) + x10_5))).bind fun t217 => ((maquettelaw07_Name.f x10_5).bind fun t218 => ((maquettelaw07_number.f l0_1 (wrap64 ((wrap64 ((ji47) * (wrap64 (Int.tmod a0_0 8)))) + (ji48)))).bind fun t219 => ((maquettelaw07_Shape_mapped.f a0_0 l0_1 l0_2 l0_3 l0_4 l0_5 t217).bind fun t220 => ((maquettelaw07_Shape_mapped.f a0_0 l0_1 l0_2 l0_3 l0_4 l0_5 (wrap64 (Int.tdiv t217 12))).bind fun t221 => (if x210002_5.length < 2199023255552 then (maquettelaw07_Shape_Config.l2 kj48 (wrap64 (Int.tmod a0_0 8)) x7_2 (wrap64 (x10_5 + 1)) a0_0 l0_1 l0_2 l0_3 l0_4 l0_5 x201000_1 x201001_2 t208 x210001_36 (x210002_5 ++ [(⟨t218, wrap64 (1 + (Int.tmod (wrap64 (Int.tdiv t219 3)) 3)), t220, t221, 0⟩ : S48)]) 0) else (none))))))) = some (r1, r2) := by rw [if_pos rfl] at H; exact H
                 clear H
                 have H := H1
                 clear H1
                 replace H := Option.bind_eq_some_iff.mp H
                 obtain ⟨t217, A670, H⟩ := H
                 replace H : ((maquettelaw07_Name.f x10_5).bind fun t218 => ((maquettelaw07_number.f l0_1 (wrap64 ((wrap64 ((ji47) * (wrap64 (Int.tmod a0_0 8)))) + (ji48)))).bind fun t219 => ((maquettelaw07_Shape_mapped.f a0_0 l0_1 l0_2 l0_3 l0_4 l0_5 t217).bind fun t220 => ((maquettelaw07_Shape_mapped.f a0_0 l0_1 l0_2 l0_3 l0_4 l0_5 (wrap64 (Int.tdiv t217 12))).bind fun t221 => (if x210002_5.length < 2199023255552 then (maquettelaw07_Shape_Config.l2 kj48 (wrap64 (Int.tmod a0_0 8)) x7_2 (wrap64 (x10_5 + 1)) a0_0 l0_1 l0_2 l0_3 l0_4 l0_5 x201000_1 x201001_2 t208 x210001_36 (x210002_5 ++ [(⟨t218, wrap64 (1 + (Int.tmod (wrap64 (Int.tdiv t219 3)) 3)), t220, t221, 0⟩ : S48)]) 0) else (none)))))) = some (r1, r2) := H
                 have A67 := Aside0.mk A670
                 clear A670
                 replace H := Option.bind_eq_some_iff.mp H
                 obtain ⟨t218, A680, H⟩ := H
                 replace H : ((maquettelaw07_number.f l0_1 (wrap64 ((wrap64 ((ji47) * (wrap64 (Int.tmod a0_0 8)))) + (ji48)))).bind fun t219 => ((maquettelaw07_Shape_mapped.f a0_0 l0_1 l0_2 l0_3 l0_4 l0_5 t217).bind fun t220 => ((maquettelaw07_Shape_mapped.f a0_0 l0_1 l0_2 l0_3 l0_4 l0_5 (wrap64 (Int.tdiv t217 12))).bind fun t221 => (if x210002_5.length < 2199023255552 then (maquettelaw07_Shape_Config.l2 kj48 (wrap64 (Int.tmod a0_0 8)) x7_2 (wrap64 (x10_5 + 1)) a0_0 l0_1 l0_2 l0_3 l0_4 l0_5 x201000_1 x201001_2 t208 x210001_36 (x210002_5 ++ [(⟨t218, wrap64 (1 + (Int.tmod (wrap64 (Int.tdiv t219 3)) 3)), t220, t221, 0⟩ : S48)]) 0) else (none))))) = some (r1, r2) := H
                 have A68 := Aside0.mk A680
                 clear A680
                 replace H := Option.bind_eq_some_iff.mp H
                 obtain ⟨t219, A690, H⟩ := H
                 replace H : ((maquettelaw07_Shape_mapped.f a0_0 l0_1 l0_2 l0_3 l0_4 l0_5 t217).bind fun t220 => ((maquettelaw07_Shape_mapped.f a0_0 l0_1 l0_2 l0_3 l0_4 l0_5 (wrap64 (Int.tdiv t217 12))).bind fun t221 => (if x210002_5.length < 2199023255552 then (maquettelaw07_Shape_Config.l2 kj48 (wrap64 (Int.tmod a0_0 8)) x7_2 (wrap64 (x10_5 + 1)) a0_0 l0_1 l0_2 l0_3 l0_4 l0_5 x201000_1 x201001_2 t208 x210001_36 (x210002_5 ++ [(⟨t218, wrap64 (1 + (Int.tmod (wrap64 (Int.tdiv t219 3)) 3)), t220, t221, 0⟩ : S48)]) 0) else (none)))) = some (r1, r2) := H
                 have A69 := Aside0.mk A690
                 clear A690
                 replace H := Option.bind_eq_some_iff.mp H
                 obtain ⟨t220, A700, H⟩ := H
                 replace H : ((maquettelaw07_Shape_mapped.f a0_0 l0_1 l0_2 l0_3 l0_4 l0_5 (wrap64 (Int.tdiv t217 12))).bind fun t221 => (if x210002_5.length < 2199023255552 then (maquettelaw07_Shape_Config.l2 kj48 (wrap64 (Int.tmod a0_0 8)) x7_2 (wrap64 (x10_5 + 1)) a0_0 l0_1 l0_2 l0_3 l0_4 l0_5 x201000_1 x201001_2 t208 x210001_36 (x210002_5 ++ [(⟨t218, wrap64 (1 + (Int.tmod (wrap64 (Int.tdiv t219 3)) 3)), t220, t221, 0⟩ : S48)]) 0) else (none))) = some (r1, r2) := H
                 have A70 := Aside0.mk A700
                 clear A700
                 replace H := Option.bind_eq_some_iff.mp H
                 obtain ⟨t221, A710, H⟩ := H
                 replace H : (if x210002_5.length < 2199023255552 then (maquettelaw07_Shape_Config.l2 kj48 (wrap64 (Int.tmod a0_0 8)) x7_2 (wrap64 (x10_5 + 1)) a0_0 l0_1 l0_2 l0_3 l0_4 l0_5 x201000_1 x201001_2 t208 x210001_36 (x210002_5 ++ [(⟨t218, wrap64 (1 + (Int.tmod (wrap64 (Int.tdiv t219 3)) 3)), t220, t221, 0⟩ : S48)]) 0) else (none)) = some (r1, r2) := H
                 have A71 := Aside0.mk A710
                 clear A710
                 by_cases c72 : x210002_5.length < 2199023255552
                 ·rw [if_pos c72] at H
                  have LMc72 := Aside0.mk c72
                  clear c72
                  obtain ⟨y222, hy222⟩ : ∃ y_ : List (S48), y_ = (x210002_5 ++ [(⟨t218, wrap64 (1 + (Int.tmod (wrap64 (Int.tdiv t219 3)) 3)), t220, t221, 0⟩ : S48)]) := ⟨_, rfl⟩
                  replace H : (maquettelaw07_Shape_Config.l2 kj48 (wrap64 (Int.tmod a0_0 8)) x7_2 (wrap64 (x10_5 + 1)) a0_0 l0_1 l0_2 l0_3 l0_4 l0_5 x201000_1 x201001_2 t208 x210001_36 y222 0) = some (r1, r2) := by first | (rw [hy222]; with_reducible exact H) | (have H2_ := (Option.bind_some _ _).symm.trans H; rw [hy222]; with_reducible exact H2_) | (have H2_ := (Option.bind_some _ _).symm.trans H; with_reducible exact H2_) | with_reducible exact H | (rw [hy222]; exact H) | exact H
                  have Ny222 := Aside0.mk hy222
                  clear hy222
                  have H' := Aside0.mk H
                  clear H
                  have hnb73 := NB198_199.out
                  have hnc73 := NB199_198.out
                  have hnb74 := NB198_200.out
                  have hnc74 := NB200_198.out
                  have hnb75 := NB198_209.out
                  have hnc75 := NB209_198.out
                  obtain ⟨hcz76_0, hcz76_1, hcz76_2, hcz76_3, hcz76_4, hcz76_5, hfz76_0, hfz76_1, hfz76_2, hfz76_3, hfz76_4, hfz76_5⟩ := bc6 BK198
                  try go_wp2_with (first | ((with_reducible refine gate_dst (N := 113) rfl ?_); refine gl (some 113) Tryd.func16 #[.slice A0_3 l0_3.length c0_3, .int .i64 (wrap64 ((wrap64 (x7_2 * (wrap64 (Int.tmod a0_0 8)))) + x10_5))] ?_; (with_reducible refine (maquettelaw07_number.calls _ _ l0_3 (wrap64 ((wrap64 (x7_2 * (wrap64 (Int.tmod a0_0 8)))) + x10_5)) t217 _ ?side1 ?side2 A67.out).mono ?_); (case side1 => exact kcb HR0_3); (case side2 => exact HC0_3.out); rintro e w' ⟨rfl, ⟨nd, rfl⟩⟩; refine ⟨_, rfl, ?_⟩; (try (rw [drewN_self wc]; generalize hq_ : World.drewN wc _ = wc; replace HO_201000 := dS hq_ HO_201000; replace HO_201001 := dS hq_ HO_201001; replace HO_210001 := dR hq_ HO_210001; replace HO_210002 := dR hq_ HO_210002; replace BK198 : Aside0 (wc.heap[gb198]? = some (.cells #[.int .u8 a0_0, .slice A0_1 l0_1.length c0_1, .slice A0_2 l0_2.length c0_2, .slice A0_3 l0_3.length c0_3, .slice A0_4 l0_4.length c0_4, .slice A0_5 l0_5.length c0_5] 25 (0, 0))) := ⟨by rw [← hq_]; exact (bkq BK198)⟩; replace BK199 : Aside0 (wc.heap[gb199]? = some (.cells #[.slice none 0 0, .slice none 0 0] 30 (0, 0))) := ⟨by rw [← hq_]; exact (bkq BK199)⟩; replace BK200 : Aside0 (wc.heap[gb200]? = some (.cells #[u201000, u201001] 30 (0, 0))) := ⟨by rw [← hq_]; exact (bkq BK200)⟩; replace BK209 : Aside0 (wc.heap[gb209]? = some (.cells #[.string t208, u210001, u210002, .slice none 0 0, .int .i64 0] 46 (0, 0))) := ⟨by rw [← hq_]; exact (bkq BK209)⟩; replace HB : Aside0 (Below w.heap.size w wc) := ⟨by rw [← hq_]; exact bel⟩; clear hq_))))
                  replace HO_201000 := Aside0.mk (Kd.S_drew HO_201000.out)
                  replace HO_201001 := Aside0.mk (Kd.S_drew HO_201001.out)
                  replace HO_210001 := Aside0.mk (Kd.R_drew HO_210001.out)
                  replace HO_210002 := Aside0.mk (Kd.R_drew HO_210002.out)
                  replace BK198 := Aside0.mk (blk_drew BK198.out)
                  replace BK199 := Aside0.mk (blk_drew BK199.out)
                  replace BK200 := Aside0.mk (blk_drew BK200.out)
                  replace BK209 := Aside0.mk (blk_drew BK209.out)
                  replace HB := Aside0.mk (below_drew1 HB.out)
                  refine start_ (n := 23) (S := fun w' => CS5 w' gb209 (.string t208) (u210001) (u210002) (.slice none 0 0) (.int .i64 0) (CE6 w' gb198 (.int .u8 a0_0) (.slice A0_1 l0_1.length c0_1) (.slice A0_2 l0_2.length c0_2) (.slice A0_3 l0_3.length c0_3) (.slice A0_4 l0_4.length c0_4) (.slice A0_5 l0_5.length c0_5))) (ds := [22]) #[false, false, false, false, false, false, false, false, false, false, false, false, false, false, false, false, false, false, false, false, false, false, false] (by kernel_rfl) rfl rfl (hs5 BK209 (he6 BK198)) (fun hHeld => ?_); refine with_tabW maquettelaw07_Shape_Config.tab22 maquettelaw07_Shape_Config.bits22 (fun HT_ HW_ => ?_)
                  generalize wc.drew = w77 at HO_201000 HO_201001 HO_210001 HO_210002 BK198 BK199 BK200 BK209 HB hHeld ⊢
                  refine pu HT_ 0 (some 114) (mk 23 1) ?_
                  refine pu HT_ 2 (some 116) (mk 23 5) ?_
                  refine pu HT_ 4 (some 118) (mk 23 21) ?_
                  refine pu HT_ 6 (some 120) (mk 23 85) ?_
                  refine pu HT_ 12 (some 126) (mk 23 4181) ?_
                  refine pu HT_ 15 (some 129) (mk 23 36949) ?_
                  refine pu HT_ 16 (some 130) (mk 23 102485) ?_
                  refine tk HT_ HW_ 1 (some 115) (mk 23 102487) hHeld ?_
                  refine tk HT_ HW_ 5 (some 119) (mk 23 102519) hHeld ?_
                  refine tk HT_ HW_ 11 (some 125) (mk 23 104567) hHeld ?_
                  refine tk HT_ HW_ 14 (some 128) (mk 23 120951) hHeld ?_
                  refine on HT_ 3 (some 117) (mk 23 120959) fun K hK => ?_
                  refine go1 Tryd.func15 #[.int .i64 x10_5] ?_
                  with_reducible refine (maquettelaw07_Name.calls x10_5 t218 _ A68.out).mono ?_
                  rintro e w' ⟨rfl, ⟨nd, rfl⟩⟩
                  refine ⟨_, rfl, ?_⟩
                  refine hK.out _ _ (hs5 BK209 (he6 BK198)) (fun hHeld => ?_)
                  clear hK K
                  refine nm (some 117) ?_
                  refine on HT_ 7 (some 121) (mk 23 121087) fun K hK => ?_
                  refine goes_ Tryd.func16 (by kernel_rfl) rfl #[.slice A0_1 l0_1.length c0_1, .int .i64 (wrap64 ((wrap64 ((ji47) * (wrap64 (Int.tmod a0_0 8)))) + (ji48)))] (by rfl) rfl rfl (by (try simp only [List.map_toArray, List.map_cons, List.map_nil]); first | done | (simp only [hji47, hji48]; rfl) | rfl | (simp only [List.length_drop, List.length_take]; rfl)) ?_
                  with_reducible refine (maquettelaw07_number.calls _ _ l0_1 (wrap64 ((wrap64 ((ji47) * (wrap64 (Int.tmod a0_0 8)))) + (ji48))) t219 _ ?side1 ?side2 A69.out).mono ?_
                  (case side1 => exact kcb HR0_1)
                  (case side2 => exact HC0_1.out)
                  rintro e w' ⟨rfl, ⟨nd, rfl⟩⟩
                  refine ⟨_, rfl, ?_⟩
                  refine hK.out _ _ (hs5 BK209 (he6 BK198)) (fun hHeld => ?_)
                  clear hK K
                  refine nm (some 121) ?_
                  refine pu HT_ 8 (some 122) (mk 23 121343) ?_
                  refine pu HT_ 9 (some 123) (mk 23 121855) ?_
                  refine pu HT_ 10 (some 124) (mk 23 122879) ?_
                  refine on HT_ 13 (some 127) (mk 23 131071) fun K hK => ?_
                  refine go1 Tryd.func18 #[.agg #[.int .u8 a0_0, .slice A0_1 l0_1.length c0_1, .slice A0_2 l0_2.length c0_2, .slice A0_3 l0_3.length c0_3, .slice A0_4 l0_4.length c0_4, .slice A0_5 l0_5.length c0_5], .int .i64 t217] ?_
                  with_reducible refine (maquettelaw07_Shape_mapped.calls a0_0 _ _ l0_1 _ _ l0_2 _ _ l0_3 _ _ l0_4 _ _ l0_5 t217 t220 _ ?side1 ?side2 ?side3 ?side4 ?side5 ?side6 ?side7 ?side8 ?side9 ?side10 A70.out).mono ?_
                  (case side1 => exact kcb HR0_1)
                  (case side2 => exact HC0_1.out)
                  (case side3 => exact kcb HR0_2)
                  (case side4 => exact HC0_2.out)
                  (case side5 => exact kcb HR0_3)
                  (case side6 => exact HC0_3.out)
                  (case side7 => exact kcb HR0_4)
                  (case side8 => exact HC0_4.out)
                  (case side9 => exact kcb HR0_5)
                  (case side10 => exact HC0_5.out)
                  rintro e w78 ⟨rfl, hb⟩
                  refine ⟨_, rfl, ?_⟩
                  replace HO_201000 := Aside0.mk (Kd.S_below (kS HO_201000) hb)
                  replace HO_201001 := Aside0.mk (Kd.S_below (kS HO_201001) hb)
                  replace HO_210001 := Aside0.mk (Kd.R_below (kR HO_210001) hb)
                  replace HO_210002 := Aside0.mk (Kd.R_below (kR HO_210002) hb)
                  replace BK198 := bkb BK198 hb
                  replace BK199 := bkb BK199 hb
                  replace BK200 := bkb BK200 hb
                  replace BK209 := bkb BK209 hb
                  replace HB := bst hb
                  (try clear hb)
                  (try clear hb2)
                  (try clear hk)
                  (try clear hi)
                  refine hK.out _ _ (hs5 BK209 (he6 BK198)) (fun hHeld => ?_)
                  clear hK K
                  refine nm (some 127) ?_
                  refine on HT_ 17 (some 131) (mk 23 262143) fun K hK => ?_
                  refine go1 Tryd.func18 #[.agg #[.int .u8 a0_0, .slice A0_1 l0_1.length c0_1, .slice A0_2 l0_2.length c0_2, .slice A0_3 l0_3.length c0_3, .slice A0_4 l0_4.length c0_4, .slice A0_5 l0_5.length c0_5], .int .i64 (wrap64 (Int.tdiv t217 12))] ?_
                  with_reducible refine (maquettelaw07_Shape_mapped.calls a0_0 _ _ l0_1 _ _ l0_2 _ _ l0_3 _ _ l0_4 _ _ l0_5 (wrap64 (Int.tdiv t217 12)) t221 _ ?side1 ?side2 ?side3 ?side4 ?side5 ?side6 ?side7 ?side8 ?side9 ?side10 A71.out).mono ?_
                  (case side1 => exact kcb HR0_1)
                  (case side2 => exact HC0_1.out)
                  (case side3 => exact kcb HR0_2)
                  (case side4 => exact HC0_2.out)
                  (case side5 => exact kcb HR0_3)
                  (case side6 => exact HC0_3.out)
                  (case side7 => exact kcb HR0_4)
                  (case side8 => exact HC0_4.out)
                  (case side9 => exact kcb HR0_5)
                  (case side10 => exact HC0_5.out)
                  rintro e w79 ⟨rfl, hb⟩
                  refine ⟨_, rfl, ?_⟩
                  replace HO_201000 := Aside0.mk (Kd.S_below (kS HO_201000) hb)
                  replace HO_201001 := Aside0.mk (Kd.S_below (kS HO_201001) hb)
                  replace HO_210001 := Aside0.mk (Kd.R_below (kR HO_210001) hb)
                  replace HO_210002 := Aside0.mk (Kd.R_below (kR HO_210002) hb)
                  replace BK198 := bkb BK198 hb
                  replace BK199 := bkb BK199 hb
                  replace BK200 := bkb BK200 hb
                  replace BK209 := bkb BK209 hb
                  replace HB := bst hb
                  (try clear hb)
                  (try clear hb2)
                  (try clear hk)
                  (try clear hi)
                  refine hK.out _ _ (hs5 BK209 (he6 BK198)) (fun hHeld => ?_)
                  clear hK K
                  refine nm (some 131) ?_
                  refine pu HT_ 18 (some 132) (mk 23 524287) ?_
                  refine on HT_ 19 (some 133) (mk 23 1048575) fun K hK => ?_
                  refine value_ (w1 := ?_) (v := ?_) (by rfl) rfl ?_ ?_
                  rotate_left 2
                  ·go_simp
                   constructor
                   ·rfl
                   ·rfl
                  refine hK.out _ _ ⟨(blk_cell (blk_alloc BK209.out _) 0).trans rfl, (blk_cell (blk_alloc BK209.out _) 1).trans rfl, (blk_cell (blk_alloc BK209.out _) 2).trans rfl, (blk_cell (blk_alloc BK209.out _) 3).trans rfl, (blk_cell (blk_alloc BK209.out _) 4).trans rfl, (blk_cell (blk_alloc BK198.out _) 0).trans rfl, (blk_cell (blk_alloc BK198.out _) 1).trans rfl, (blk_cell (blk_alloc BK198.out _) 2).trans rfl, (blk_cell (blk_alloc BK198.out _) 3).trans rfl, (blk_cell (blk_alloc BK198.out _) 4).trans rfl, (blk_cell (blk_alloc BK198.out _) 5).trans rfl⟩ (fun hHeld => ?_)
                  clear hK K
                  refine nm (some 133) ?_
                  refine on HT_ 20 (some 134) (mk 23 2097151) fun K hK => ?_
                  refine Kd.R_append_step k48 (w0 := w) w.heap.size (by rfl) (.tmp 115) (.tmp 133) 43 48 (.agg #[(.string ⟨#[]⟩), (.int .i64 0), (.string ⟨#[]⟩), (.string ⟨#[]⟩), (.int .i64 0)]) 64 rfl Tryd.underlying43 info48 rfl (by decide) (by omega) u210002 x210002_5 (⟨t218, wrap64 (1 + (Int.tmod (wrap64 (Int.tdiv t219 3)) 3)), t220, t221, 0⟩ : S48) [.string t218, .int .i64 (wrap64 (1 + (Int.tmod (wrap64 (Int.tdiv t219 3)) 3))), .string t220, .string t221, .int .i64 0] (fun _ => True) (fun _ => False) rfl rfl ?aP (fun _ hk => hk.elim) ?aF ?aO ?aB ?aS ?aL ?_
                  (case aP => exact k48_mkM _ _ _ (⟨t218, wrap64 (1 + (Int.tmod (wrap64 (Int.tdiv t219 3)) 3)), t220, t221, 0⟩ : S48))
                  (case aB => exact bel)
                  (case aF => exact (fun _ _ => trivial))
                  (case aO => exact (kR HO_210002))
                  (case aS => exact (below_size bel))
                  (case aL => have := LMc72.out; omega)
                  intro v223 w80 ho hb hg hat
                  rw [← Ny222.out] at ho
                  have HO224 := Aside0.mk ho
                  replace HO_201000 := Aside0.mk (Kd.S_over' (kS HO_201000) (Kd.R_typed (kR HO_210002)) (by decide) hg)
                  replace HO_201001 := Aside0.mk (Kd.S_after (ok := (fun k_ => some k_ ≠ (u210001 : Value).ownBlock ∧ k_ ≠ gb209)) (by (with_reducible repeat (first | apply Kd.S_alloc | apply Kd.S_drewN | apply Kd.S_drew)); exact Kd.S_mono HO_201001.out (fun _ hk => ⟨⟨hk.1, hk.2.2⟩, hk.2.1⟩)) hg hat)
                  replace HO_210001 := Aside0.mk (Kd.R_over' (kR HO_210001) (Kd.R_typed (kR HO_210002)) (by decide) hg)
                  replace BK198 := Aside0.mk (blk_grown (bkq BK198) hg (Kd.R_ne HO_210002.out BK198.out (by decide)))
                  replace BK199 := Aside0.mk (blk_grown (bkq BK199) hg (Kd.R_ne HO_210002.out BK199.out (by decide)))
                  replace BK200 := Aside0.mk (blk_grown (bkq BK200) hg (Kd.R_ne HO_210002.out BK200.out (by decide)))
                  replace BK209 := Aside0.mk (blk_grown (bkq BK209) hg (Kd.R_ne HO_210002.out BK209.out (by decide)))
                  replace HB := Aside0.mk (hb)
                  clear HO_210002
                  clear ho hb hg hat
                  obtain ⟨Ao81, co81, eo81⟩ := Kd.R_slice HO224.out
                  (first | subst eo81 | (injection eo81 with f1_ f2_ f3_; have f4_ := f1_.symm; have f5_ := f3_.symm; clear f1_ f2_ f3_; subst f4_; subst f5_))
                  refine hK.out _ _ (hs5 BK209 (he6 BK198)) (fun hHeld => ?_)
                  clear hK K
                  refine nm (some 134) ?_
                  refine pu HT_ 21 (some 135) (mk 23 4194303) ?_
                  refine la HT_ 22 (none) (mk 23 8388607) fun K hK => ?_
                  have hs82 : w80.cell? ⟨gb209, 2, none⟩ = some (u210002) := (blk_cell BK209.out 2).trans rfl
                  have hfs82 := blk_frozen BK209.out 2
                  have hns82_0 := NB198_209.out
                  have hns82_1 := NB199_209.out
                  have hns82_2 := NB200_209.out
                  have hms82_0 := NB209_198.out
                  have hms82_1 := NB209_199.out
                  have hms82_2 := NB209_200.out
                  refine skip_ (w1 := ?_) (by rfl) rfl ?_ ?_
                  rotate_left
                  ·go_simp
                   rfl
                  refine hK.out _ _ ?_
                  clear hK K
                  refine done_ (done_of HT_.out (by kernel_rfl)) ?_
                  try go_wp2
                  go_roundg kj48
                  case measure => have := HK1.out; have := HK2.out; have := HJ26.out; have := HJ36.out; have := HK5.out; have := HJ48.out; omega
                  case rel => exact ⟨(wrap64 (x10_5 + 1)), (y222), (.slice Ao81 y222.length co81), (by first | rfl | (simp; done) | (simp [*]; done)), H', ⟨by have := HK1.out; have := HK2.out; have := HJ26.out; have := HJ36.out; have := HK5.out; have := HJ48.out; omega⟩, ⟨by (with_reducible repeat (first | apply Kd.S_alloc | apply Kd.S_drewN | apply Kd.S_drew)); exact Kd.S_mono (Kd.S_far (p := ⟨gb209, 2, none⟩) (Kd.S_types HO_201000.out BK209.out (by decide)) (fun _ hk => hk.2) (.slice Ao81 y222.length co81)) (fun _ hk => trivial)⟩, ⟨by (with_reducible repeat (first | apply Kd.S_alloc | apply Kd.S_drewN | apply Kd.S_drew)); exact Kd.S_mono (Kd.S_far (p := ⟨gb209, 2, none⟩) (Kd.S_mono HO_201001.out (fun k_ hk => (⟨hk, hk.1.2⟩ : _ ∧ k_ ≠ gb209))) (fun _ hk => hk.2) (.slice Ao81 y222.length co81)) (fun _ hk => ⟨hk.1.1.1, ⟨hk.1.2, hk.1.1.2⟩⟩)⟩, ⟨by (with_reducible repeat (first | apply Kd.R_alloc | apply Kd.R_drewN | apply Kd.R_drew)); exact Kd.R_mono (Kd.R_far (p := ⟨gb209, 2, none⟩) (Kd.R_types HO_210001.out BK209.out (by decide)) (fun _ hk => hk.2) (.slice Ao81 y222.length co81)) (fun _ hk => trivial)⟩, ⟨by (with_reducible repeat (first | apply Kd.R_alloc | apply Kd.R_drewN | apply Kd.R_drew)); exact Kd.R_mono (Kd.R_far (p := ⟨gb209, 2, none⟩) (Kd.R_types HO224.out BK209.out (by decide)) (fun _ hk => hk.2) (.slice Ao81 y222.length co81)) (fun _ hk => trivial)⟩, ⟨bkq BK198⟩, ⟨bkq BK199⟩, ⟨bkq BK200⟩, ⟨bkp BK209⟩, ⟨by repeat (first | (with_reducible first | exact HB.out | apply below_alloc | apply pw_below_drewN | apply below_drew1 | refine below_set ?_ GE198.out | refine below_set ?_ GE199.out | refine below_set ?_ GE200.out | refine below_set ?_ GE209.out) | exact HB.out)⟩⟩
                 ·rw [if_neg c72] at H
                  exact absurd H (by simp)
                ·replace c66 := Bool.eq_false_iff.mpr c66
                 subst c66
                 have H1 : (maquettelaw07_Shape_Config.l2 kj48 (wrap64 (Int.tmod a0_0 8)) x7_2 (wrap64 (x10_5 + 1)) a0_0 l0_1 l0_2 l0_3 l0_4 l0_5 x201000_1 x201001_2 t208 x210001_36 x210002_5 0) = some (r1, r2) := by rw [if_neg (show ¬ (false = true) by decide)] at H; exact H
                 clear H
                 have H := H1
                 clear H1
                 have H' := Aside0.mk H
                 clear H
                 go_wp2
                 go_roundg kj48
                 case measure => have := HK1.out; have := HK2.out; have := HJ26.out; have := HJ36.out; have := HK5.out; have := HJ48.out; omega
                 case rel => exact ⟨(wrap64 (x10_5 + 1)), (x210002_5), (u210002), (by first | rfl | (simp; done) | (simp [*]; done)), H', ⟨by have := HK1.out; have := HK2.out; have := HJ26.out; have := HJ36.out; have := HK5.out; have := HJ48.out; omega⟩, ⟨by (with_reducible repeat (first | apply Kd.S_alloc | apply Kd.S_drewN | apply Kd.S_drew)); exact HO_201000.out⟩, ⟨by (with_reducible repeat (first | apply Kd.S_alloc | apply Kd.S_drewN | apply Kd.S_drew)); exact HO_201001.out⟩, ⟨by (with_reducible repeat (first | apply Kd.R_alloc | apply Kd.R_drewN | apply Kd.R_drew)); exact HO_210001.out⟩, ⟨by (with_reducible repeat (first | apply Kd.R_alloc | apply Kd.R_drewN | apply Kd.R_drew)); exact HO_210002.out⟩, ⟨bkq BK198⟩, ⟨bkq BK199⟩, ⟨bkq BK200⟩, ⟨bkq BK209⟩, ⟨by repeat (first | (with_reducible first | exact HB.out | apply below_alloc | apply pw_below_drewN | apply below_drew1 | refine below_set ?_ GE198.out | refine below_set ?_ GE199.out | refine below_set ?_ GE200.out | refine below_set ?_ GE209.out) | exact HB.out)⟩⟩
             ·rw [if_neg c46] at H
              have c46b0 := decide_eq_false c46
              clear c46
              replace H := Option.bind_eq_some_iff.mp H
              obtain ⟨t225, A830, H⟩ := H
              replace H : (if (Int.tmod t225 5) = 4 then (if (x210002_5.length : Int) > 0 then ((maquettelaw05_Make.f k5 ((t225) % 256)).bind fun bt226 => (if (x210002_5.length : Int) = 0 then (none) else (if 0 ≤ (Int.tmod (wrap64 (Int.tdiv t225 8)) (x210002_5.length : Int)) then (if (Int.tmod (wrap64 (Int.tdiv t225 8)) (x210002_5.length : Int)) < (x210002_5.length : Int) then (if ([] : List (S60)).length < 3518437208883 then (if x201001_2.length < 1466015503701 then (maquettelaw07_Shape_Config.l1 k5 (wrap64 (Int.tmod a0_0 8)) (wrap64 (x7_2 + 1)) a0_0 l0_1 l0_2 l0_3 l0_4 l0_5 x201000_1 (x201001_2 ++ [(⟨t208, x210001_36, x210002_5, (([] : List (S60)) ++ [(⟨(⟨bt226.1, bt226.2⟩ : S39), (rd_T48 x210002_5 (Int.tmod (wrap64 (Int.tdiv t225 8)) (x210002_5.length : Int))).f0, 0⟩ : S60)]), 0⟩ : S46)])) else (none)) else (none)) else (none)) else (none)))) else (if x201001_2.length < 1466015503701 then (maquettelaw07_Shape_Config.l1 k5 (wrap64 (Int.tmod a0_0 8)) (wrap64 (x7_2 + 1)) a0_0 l0_1 l0_2 l0_3 l0_4 l0_5 x201000_1 (x201001_2 ++ [(⟨t208, x210001_36, x210002_5, ([] : List (S60)), 0⟩ : S46)])) else (none))) else (if x201001_2.length < 1466015503701 then (maquettelaw07_Shape_Config.l1 k5 (wrap64 (Int.tmod a0_0 8)) (wrap64 (x7_2 + 1)) a0_0 l0_1 l0_2 l0_3 l0_4 l0_5 x201000_1 (x201001_2 ++ [(⟨t208, x210001_36, x210002_5, ([] : List (S60)), 0⟩ : S46)])) else (none))) = some (r1, r2) := H
              have A83 := Aside0.mk A830
              clear A830
              by_cases c84 : (Int.tmod t225 5) = 4
              ·rw [if_pos c84] at H
               have c84b0 : ((Int.tmod t225 5) == 4) = true := beq_iff_eq.mpr c84
               have c84b1 : ((Int.tmod t225 5) != 4) = false := bne_eq_false_iff_eq.mpr c84
               clear c84
               by_cases c85 : (x210002_5.length : Int) > 0
               ·rw [if_pos c85] at H
                have c85b0 := decide_eq_true c85
                have c85b1 : decide (0 < x210002_5.length) = true := decide_eq_true (by omega)
                clear c85
                replace H := Option.bind_eq_some_iff.mp H
                obtain ⟨⟨t226, t227⟩, A860, H⟩ := H
                replace H : (if (x210002_5.length : Int) = 0 then (none) else (if 0 ≤ (Int.tmod (wrap64 (Int.tdiv t225 8)) (x210002_5.length : Int)) then (if (Int.tmod (wrap64 (Int.tdiv t225 8)) (x210002_5.length : Int)) < (x210002_5.length : Int) then (if ([] : List (S60)).length < 3518437208883 then (if x201001_2.length < 1466015503701 then (maquettelaw07_Shape_Config.l1 k5 (wrap64 (Int.tmod a0_0 8)) (wrap64 (x7_2 + 1)) a0_0 l0_1 l0_2 l0_3 l0_4 l0_5 x201000_1 (x201001_2 ++ [(⟨t208, x210001_36, x210002_5, (([] : List (S60)) ++ [(⟨(⟨t226, t227⟩ : S39), (rd_T48 x210002_5 (Int.tmod (wrap64 (Int.tdiv t225 8)) (x210002_5.length : Int))).f0, 0⟩ : S60)]), 0⟩ : S46)])) else (none)) else (none)) else (none)) else (none))) = some (r1, r2) := H
                have A86 := Aside0.mk A860
                clear A860
                by_cases c87 : (x210002_5.length : Int) = 0
                ·rw [if_pos c87] at H
                 exact absurd H (by simp)
                ·rw [if_neg c87] at H
                 have c87b0 : ((x210002_5.length : Int) == 0) = false := beq_eq_false_iff_ne.mpr c87
                 have c87b1 : ((x210002_5.length : Int) != 0) = true := bne_iff_ne.mpr c87
                 have c87b2 : ¬ (x210002_5 = []) := fun h_ => c87 (by rw [h_]; rfl)
                 obtain ⟨ji88, hji88⟩ : ∃ j_ : Int, (Int.tmod (wrap64 (Int.tdiv t225 8)) (x210002_5.length : Int)) = j_ := ⟨_, rfl⟩
                 replace H : (if 0 ≤ (ji88) then (if (ji88) < (x210002_5.length : Int) then (if ([] : List (S60)).length < 3518437208883 then (if x201001_2.length < 1466015503701 then (maquettelaw07_Shape_Config.l1 k5 (wrap64 (Int.tmod a0_0 8)) (wrap64 (x7_2 + 1)) a0_0 l0_1 l0_2 l0_3 l0_4 l0_5 x201000_1 (x201001_2 ++ [(⟨t208, x210001_36, x210002_5, (([] : List (S60)) ++ [(⟨(⟨t226, t227⟩ : S39), (rd_T48 x210002_5 (ji88)).f0, 0⟩ : S60)]), 0⟩ : S46)])) else (none)) else (none)) else (none)) else (none)) = some (r1, r2) := by first | (rw [hji88] at H; exact H) | (simp only [hji88] at H ⊢; exact H)
                 (try rw [hji88] at A83)
                 (try rw [hji88] at A86)
                 by_cases c89 : 0 ≤ (ji88)
                 ·rw [if_pos c89] at H
                  have c89b0 := decide_eq_true c89
                  clear c89
                  by_cases c90 : (ji88) < (x210002_5.length : Int)
                  ·rw [if_pos c90] at H
                   have c90b0 := decide_eq_true c90
                   clear c90
                   by_cases c91 : ([] : List (S60)).length < 3518437208883
                   ·rw [if_pos c91] at H
                    have LMc91 := Aside0.mk c91
                    clear c91
                    obtain ⟨y229, hy229⟩ : ∃ y_ : List (S60), y_ = (([] : List (S60)) ++ [(⟨(⟨t226, t227⟩ : S39), (rd_T48 x210002_5 (ji88)).f0, 0⟩ : S60)]) := ⟨_, rfl⟩
                    replace H : (if x201001_2.length < 1466015503701 then (maquettelaw07_Shape_Config.l1 k5 (wrap64 (Int.tmod a0_0 8)) (wrap64 (x7_2 + 1)) a0_0 l0_1 l0_2 l0_3 l0_4 l0_5 x201000_1 (x201001_2 ++ [(⟨t208, x210001_36, x210002_5, y229, 0⟩ : S46)])) else (none)) = some (r1, r2) := by first | (rw [hy229]; with_reducible exact H) | (have H2_ := (Option.bind_some _ _).symm.trans H; rw [hy229]; with_reducible exact H2_) | (have H2_ := (Option.bind_some _ _).symm.trans H; with_reducible exact H2_) | with_reducible exact H | (rw [hy229]; exact H) | exact H
                    have Ny229 := Aside0.mk hy229
                    clear hy229
                    by_cases c92 : x201001_2.length < 1466015503701
                    ·rw [if_pos c92] at H
                     have LMc92 := Aside0.mk c92
                     clear c92
                     obtain ⟨y232, hy232⟩ : ∃ y_ : List (S46), y_ = (x201001_2 ++ [(⟨t208, x210001_36, x210002_5, y229, 0⟩ : S46)]) := ⟨_, rfl⟩
                     replace H : (maquettelaw07_Shape_Config.l1 k5 (wrap64 (Int.tmod a0_0 8)) (wrap64 (x7_2 + 1)) a0_0 l0_1 l0_2 l0_3 l0_4 l0_5 x201000_1 y232) = some (r1, r2) := by first | (rw [hy232]; with_reducible exact H) | (have H2_ := (Option.bind_some _ _).symm.trans H; rw [hy232]; with_reducible exact H2_) | (have H2_ := (Option.bind_some _ _).symm.trans H; with_reducible exact H2_) | with_reducible exact H | (rw [hy232]; exact H) | exact H
                     have Ny232 := Aside0.mk hy232
                     clear hy232
                     have H' := Aside0.mk H
                     clear H
                     have hnb93 := NB198_199.out
                     have hnc93 := NB199_198.out
                     have hnb94 := NB198_200.out
                     have hnc94 := NB200_198.out
                     have hnb95 := NB198_209.out
                     have hnc95 := NB209_198.out
                     obtain ⟨hcz96_0, hcz96_1, hcz96_2, hcz96_3, hcz96_4, hcz96_5, hfz96_0, hfz96_1, hfz96_2, hfz96_3, hfz96_4, hfz96_5⟩ := bc6 BK198
                     try go_wp2_with (first | ((with_reducible refine gate_dst (N := 139) rfl ?_); refine gl (some 139) Tryd.func16 #[.slice A0_5 l0_5.length c0_5, .int .i64 x7_2] ?_; (with_reducible refine (maquettelaw07_number.calls _ _ l0_5 x7_2 t225 _ ?side1 ?side2 A83.out).mono ?_); (case side1 => exact kcb HR0_5); (case side2 => exact HC0_5.out); rintro e w' ⟨rfl, ⟨nd, rfl⟩⟩; refine ⟨_, rfl, ?_⟩; (try (rw [drewN_self wr]; generalize hq_ : World.drewN wr _ = wr; replace HO_201000 := dS hq_ HO_201000; replace HO_201001 := dS hq_ HO_201001; replace HO_210001 := dR hq_ HO_210001; replace HO_210002 := dR hq_ HO_210002; replace BK198 := bkd hq_ BK198; replace BK199 := bkd hq_ BK199; replace BK200 := bkd hq_ BK200; replace BK209 := bkd hq_ BK209; replace HB := bld (w := w) hq_; clear hq_)); have hnb97 := NB209_199.out; have hnc97 := NB199_209.out; have hnb98 := NB209_200.out; have hnc98 := NB200_209.out; obtain ⟨hcz99_0, hcz99_1, hcz99_2, hcz99_3, hcz99_4, hfz99_0, hfz99_1, hfz99_2, hfz99_3, hfz99_4⟩ := bc5 BK209; obtain ⟨Ao100, co100, eo100⟩ := Kd.R_slice HO_210002.out; subst eo100))
                     replace HO_201000 := Aside0.mk (Kd.S_drew HO_201000.out)
                     replace HO_201001 := Aside0.mk (Kd.S_drew HO_201001.out)
                     replace HO_210001 := Aside0.mk (Kd.R_drew HO_210001.out)
                     replace HO_210002 := Aside0.mk (Kd.R_drew HO_210002.out)
                     replace BK198 := Aside0.mk (blk_drew BK198.out)
                     replace BK199 := Aside0.mk (blk_drew BK199.out)
                     replace BK200 := Aside0.mk (blk_drew BK200.out)
                     replace BK209 := Aside0.mk (blk_drew BK209.out)
                     replace HB := Aside0.mk (below_drew1 HB.out)
                     have p228 : 0 ≤ ((ji88) : Int) := of_decide_eq_true (by first | (with_reducible assumption) | assumption)
                     have q228 : (ji88) < (x210002_5.length : Int) := of_decide_eq_true (by first | (with_reducible assumption) | assumption)
                     obtain ⟨ad228, e228, hx228_0, hx228_1, hx228_2, hx228_3, hx228_4⟩ := at_T48 (Kd.R_reads' HO_210002.out).2.2 (ji88) p228 q228
                     cases e228
                     replace p228 := eq_true p228
                     replace q228 := eq_true q228
                     refine start_ (n := 21) (S := fun w' => CS5 w' gb209 (.string t208) (u210001) (.slice (some ad228) x210002_5.length co100) (.slice none 0 0) (.int .i64 0) (w'.cell? (ad228.add (((ji88)).toNat * 5)) = some (.string ((rd_T48 x210002_5 (ji88)).f0)) ∧ w'.cell? ⟨(ad228.add (((ji88)).toNat * 5)).block, (ad228.add (((ji88)).toNat * 5)).off + 1, none⟩ = some (.int .i64 ((rd_T48 x210002_5 (ji88)).f1)) ∧ w'.cell? ⟨(ad228.add (((ji88)).toNat * 5)).block, (ad228.add (((ji88)).toNat * 5)).off + 2, none⟩ = some (.string ((rd_T48 x210002_5 (ji88)).f2)) ∧ w'.cell? ⟨(ad228.add (((ji88)).toNat * 5)).block, (ad228.add (((ji88)).toNat * 5)).off + 3, none⟩ = some (.string ((rd_T48 x210002_5 (ji88)).f3)) ∧ w'.cell? ⟨(ad228.add (((ji88)).toNat * 5)).block, (ad228.add (((ji88)).toNat * 5)).off + 4, none⟩ = some (.int .i64 ((rd_T48 x210002_5 (ji88)).f4)))) (ds := [18, 20]) #[false, false, false, false, false, false, false, false, false, false, false, false, false, false, false, false, false, false, false, false, false] (by kernel_rfl) rfl rfl ⟨(blk_cell BK209.out 0).trans rfl, (blk_cell BK209.out 1).trans rfl, (blk_cell BK209.out 2).trans rfl, (blk_cell BK209.out 3).trans rfl, (blk_cell BK209.out 4).trans rfl, hx228_0, hx228_1, hx228_2, hx228_3, hx228_4⟩ (fun hHeld => ?_); refine with_tabW maquettelaw07_Shape_Config.tab25 maquettelaw07_Shape_Config.bits25 (fun HT_ HW_ => ?_)
                     generalize wr.drew = w101 at HO_201000 HO_201001 HO_210001 HO_210002 BK198 BK199 BK200 BK209 HB hx228_0 hx228_1 hx228_2 hx228_3 hx228_4 hHeld ⊢
                     refine pu HT_ 0 (some 149) (mk 21 1) ?_
                     refine pu HT_ 2 (some 151) (mk 21 5) ?_
                     refine pu HT_ 3 (some 152) (mk 21 13) ?_
                     refine pu HT_ 5 (some 154) (mk 21 45) ?_
                     refine pu HT_ 7 (some 156) (mk 21 173) ?_
                     refine pu HT_ 8 (some 157) (mk 21 429) ?_
                     refine pu HT_ 9 (some 158) (mk 21 941) ?_
                     refine tk HT_ HW_ 1 (some 150) (mk 21 943) hHeld ?_
                     refine tk HT_ HW_ 6 (some 155) (mk 21 1007) hHeld ?_
                     refine tk HT_ HW_ 10 (some 159) (mk 21 2031) hHeld ?_
                     refine pu HT_ 11 (some 160) (mk 21 4079) ?_
                     refine pu HT_ 12 (some 161) (mk 21 8175) ?_
                     refine pu HT_ 13 (some 162) (mk 21 16367) ?_
                     refine pu HT_ 14 (some 163) (mk 21 32751) ?_
                     refine tk HT_ HW_ 15 (some 164) (mk 21 65519) hHeld ?_
                     refine on HT_ 4 (some 153) (mk 21 65535) fun K hK => ?_
                     refine go1 Tryd.func17 #[.int .u8 ((t225) % 256)] ?_
                     with_reducible refine (maquettelaw05_Make.calls k5 ((t225) % 256) t226 t227 _ A86.out).mono ?_
                     rintro e w102 ⟨rfl, hb⟩
                     have HS5_ := (hb.cell (World.block_lt_of_cell? _ _ (hHeld.2.2.2.2.2.1))).trans (hHeld.2.2.2.2.2.1)
                     have HS6_ := (hb.cell (World.block_lt_of_cell? _ _ (hHeld.2.2.2.2.2.2.1))).trans (hHeld.2.2.2.2.2.2.1)
                     have HS7_ := (hb.cell (World.block_lt_of_cell? _ _ (hHeld.2.2.2.2.2.2.2.1))).trans (hHeld.2.2.2.2.2.2.2.1)
                     have HS8_ := (hb.cell (World.block_lt_of_cell? _ _ (hHeld.2.2.2.2.2.2.2.2.1))).trans (hHeld.2.2.2.2.2.2.2.2.1)
                     have HS9_ := (hb.cell (World.block_lt_of_cell? _ _ (hHeld.2.2.2.2.2.2.2.2.2))).trans (hHeld.2.2.2.2.2.2.2.2.2)
                     refine ⟨_, rfl, ?_⟩
                     replace HO_201000 := Aside0.mk (Kd.S_below (kS HO_201000) hb)
                     replace HO_201001 := Aside0.mk (Kd.S_below (kS HO_201001) hb)
                     replace HO_210001 := Aside0.mk (Kd.R_below (kR HO_210001) hb)
                     replace HO_210002 := Aside0.mk (Kd.R_below (kR HO_210002) hb)
                     replace BK198 := bkb BK198 hb
                     replace BK199 := bkb BK199 hb
                     replace BK200 := bkb BK200 hb
                     replace BK209 := bkb BK209 hb
                     replace HB := bst hb
                     (try clear hb)
                     (try clear hb2)
                     (try clear hk)
                     (try clear hi)
                     refine hK.out _ _ ⟨(blk_cell BK209.out 0).trans rfl, (blk_cell BK209.out 1).trans rfl, (blk_cell BK209.out 2).trans rfl, (blk_cell BK209.out 3).trans rfl, (blk_cell BK209.out 4).trans rfl, HS5_, HS6_, HS7_, HS8_, HS9_⟩ (fun hHeld => ?_)
                     clear hK K
                     refine nm (some 153) ?_
                     refine pu HT_ 16 (some 165) (mk 21 131071) ?_
                     refine on HT_ 17 (some 166) (mk 21 262143) fun K hK => ?_
                     refine value_ (w1 := ?_) (v := ?_) (by rfl) rfl ?_ ?_
                     rotate_left 2
                     ·go_simp
                      constructor
                      ·rfl
                      ·rfl
                     refine hK.out _ _ ⟨(blk_cell (blk_alloc BK209.out _) 0).trans rfl, (blk_cell (blk_alloc BK209.out _) 1).trans rfl, (blk_cell (blk_alloc BK209.out _) 2).trans rfl, (blk_cell (blk_alloc BK209.out _) 3).trans rfl, (blk_cell (blk_alloc BK209.out _) 4).trans rfl, (World.cell?_alloc_lt _ _ _ (World.block_lt_of_cell? _ _ (hHeld.2.2.2.2.2.1))).trans (hHeld.2.2.2.2.2.1), (World.cell?_alloc_lt _ _ _ (World.block_lt_of_cell? _ _ (hHeld.2.2.2.2.2.2.1))).trans (hHeld.2.2.2.2.2.2.1), (World.cell?_alloc_lt _ _ _ (World.block_lt_of_cell? _ _ (hHeld.2.2.2.2.2.2.2.1))).trans (hHeld.2.2.2.2.2.2.2.1), (World.cell?_alloc_lt _ _ _ (World.block_lt_of_cell? _ _ (hHeld.2.2.2.2.2.2.2.2.1))).trans (hHeld.2.2.2.2.2.2.2.2.1), (World.cell?_alloc_lt _ _ _ (World.block_lt_of_cell? _ _ (hHeld.2.2.2.2.2.2.2.2.2))).trans (hHeld.2.2.2.2.2.2.2.2.2)⟩ (fun hHeld => ?_)
                     clear hK K
                     refine nm (some 166) ?_
                     refine la HT_ 18 (some 167) (mk 21 524287) fun K hK => ?_
                     refine Kd.R_append_step k60 (w0 := w) w.heap.size (by rfl) (.tmp 150) (.tmp 166) 44 60 (.agg #[(.int .u32 0), (.int .i64 0), (.string ⟨#[]⟩), (.int .i64 0)]) 40 rfl Tryd.underlying44 info60 rfl (by decide) (by omega) (.slice none 0 0) ([] : List (S60)) (⟨(⟨t226, t227⟩ : S39), (rd_T48 x210002_5 (ji88)).f0, 0⟩ : S60) [.int .u32 t226, .int .i64 t227, .string ((rd_T48 x210002_5 (ji88)).f0), .int .i64 0] (fun _ => True) (fun _ => False) rfl rfl ?aP (fun _ hk => hk.elim) ?aF ?aO ?aB ?aS ?aL ?_
                     (case aP => exact k60_mkM _ _ _ (⟨(⟨t226, t227⟩ : S39), (rd_T48 x210002_5 (ji88)).f0, 0⟩ : S60))
                     (case aB => exact bel)
                     (case aF => exact (fun _ _ => trivial))
                     (case aO => exact ((Kd.R_nil _ _ _ _ (fun _ => True))))
                     (case aS => exact (below_size bel))
                     (case aL => have := LMc91.out; omega)
                     intro v230 w103 ho hb hg hat
                     rw [← Ny229.out] at ho
                     have HO231 := Aside0.mk ho
                     replace HO_201000 := Aside0.mk (Kd.S_grown (kS HO_201000) hg (fun _ _ => by simp [Value.ownBlock]))
                     replace HO_201001 := Aside0.mk (Kd.S_after (Kd.S_apart_nil (kS HO_201001)) hg hat)
                     replace HO_210001 := Aside0.mk (Kd.R_grown (kR HO_210001) hg (fun _ _ => by simp [Value.ownBlock]))
                     replace HO_210002 := Aside0.mk (Kd.R_grown (kR HO_210002) hg (fun _ _ => by simp [Value.ownBlock]))
                     replace BK198 := Aside0.mk (blk_grown (bkq BK198) hg (by simp [Value.ownBlock]))
                     replace BK199 := Aside0.mk (blk_grown (bkq BK199) hg (by simp [Value.ownBlock]))
                     replace BK200 := Aside0.mk (blk_grown (bkq BK200) hg (by simp [Value.ownBlock]))
                     replace BK209 := Aside0.mk (blk_grown (bkq BK209) hg (by simp [Value.ownBlock]))
                     replace HB := Aside0.mk (hb)
                     clear ho hb hg hat
                     obtain ⟨Ao104, co104, eo104⟩ := Kd.R_slice HO231.out
                     (first | subst eo104 | (injection eo104 with f1_ f2_ f3_; have f4_ := f1_.symm; have f5_ := f3_.symm; clear f1_ f2_ f3_; subst f4_; subst f5_))
                     refine hK.out _ _ ?_
                     clear hK K
                     refine nm (some 167) ?_
                     refine pu HT_ 19 (some 168) (mk 21 1048575) ?_
                     refine la HT_ 20 (none) (mk 21 2097151) fun K hK => ?_
                     have hs105 : w103.cell? ⟨gb209, 3, none⟩ = some (.slice none 0 0) := (blk_cell BK209.out 3).trans rfl
                     have hfs105 := blk_frozen BK209.out 3
                     have hns105_0 := NB198_209.out
                     have hns105_1 := NB199_209.out
                     have hns105_2 := NB200_209.out
                     have hms105_0 := NB209_198.out
                     have hms105_1 := NB209_199.out
                     have hms105_2 := NB209_200.out
                     refine skip_ (w1 := ?_) (by rfl) rfl ?_ ?_
                     rotate_left
                     ·go_simp
                      rfl
                     refine hK.out _ _ ?_
                     clear hK K
                     refine done_ (done_of HT_.out (by kernel_rfl)) ?_
                     have n0_ : Aside0 (Kd.S k36 36 (w103.setCell ⟨gb209, 3, none⟩ (.slice Ao104 y229.length co104)) w.heap.size (fun _ => True) u201000 x201000_1) := ⟨by (with_reducible repeat (first | apply Kd.S_alloc | apply Kd.S_drewN | apply Kd.S_drew)); exact Kd.S_mono (Kd.S_far (p := ⟨gb209, 3, none⟩) (Kd.S_types HO_201000.out BK209.out (by decide)) (fun _ hk => hk.2) (.slice Ao104 y229.length co104)) (fun _ hk => trivial)⟩
                     have n1_ : Aside0 (Kd.S k46 46 (w103.setCell ⟨gb209, 3, none⟩ (.slice Ao104 y229.length co104)) w.heap.size (fun k_ => some k_ ≠ (u210001 : Value).ownBlock ∧ some k_ ≠ (.slice (some ad228) x210002_5.length co100 : Value).ownBlock ∧ some k_ ≠ (.slice Ao104 y229.length co104 : Value).ownBlock ∧ k_ ≠ gb209) u201001 x201001_2) := ⟨by (with_reducible repeat (first | apply Kd.S_alloc | apply Kd.S_drewN | apply Kd.S_drew)); exact Kd.S_mono (Kd.S_far (p := ⟨gb209, 3, none⟩) (Kd.S_mono HO_201001.out (fun k_ hk => (⟨hk, hk.1.2.2⟩ : _ ∧ k_ ≠ gb209))) (fun _ hk => hk.2) (.slice Ao104 y229.length co104)) (fun _ hk => ⟨hk.1.1.1, ⟨hk.1.1.2.1, ⟨hk.1.2, hk.1.1.2.2⟩⟩⟩)⟩
                     have n2_ : Aside0 (Kd.R k39 39 (w103.setCell ⟨gb209, 3, none⟩ (.slice Ao104 y229.length co104)) w.heap.size (fun _ => True) u210001 x210001_36) := ⟨by (with_reducible repeat (first | apply Kd.R_alloc | apply Kd.R_drewN | apply Kd.R_drew)); exact Kd.R_mono (Kd.R_far (p := ⟨gb209, 3, none⟩) (Kd.R_types HO_210001.out BK209.out (by decide)) (fun _ hk => hk.2) (.slice Ao104 y229.length co104)) (fun _ hk => trivial)⟩
                     have n3_ : Aside0 (Kd.R k48 48 (w103.setCell ⟨gb209, 3, none⟩ (.slice Ao104 y229.length co104)) w.heap.size (fun _ => True) (.slice (some ad228) x210002_5.length co100) x210002_5) := ⟨by (with_reducible repeat (first | apply Kd.R_alloc | apply Kd.R_drewN | apply Kd.R_drew)); exact Kd.R_mono (Kd.R_far (p := ⟨gb209, 3, none⟩) (Kd.R_types HO_210002.out BK209.out (by decide)) (fun _ hk => hk.2) (.slice Ao104 y229.length co104)) (fun _ hk => trivial)⟩
                     have n4_ : Aside0 (Kd.R k60 60 (w103.setCell ⟨gb209, 3, none⟩ (.slice Ao104 y229.length co104)) w.heap.size (fun _ => True) (.slice Ao104 y229.length co104) y229) := ⟨by (with_reducible repeat (first | apply Kd.R_alloc | apply Kd.R_drewN | apply Kd.R_drew)); exact Kd.R_mono (Kd.R_far (p := ⟨gb209, 3, none⟩) (Kd.R_types HO231.out BK209.out (by decide)) (fun _ hk => hk.2) (.slice Ao104 y229.length co104)) (fun _ hk => trivial)⟩
                     have n5_ : Aside0 ((w103.setCell ⟨gb209, 3, none⟩ (.slice Ao104 y229.length co104)).heap[gb198]? = some (.cells #[.int .u8 a0_0, .slice A0_1 l0_1.length c0_1, .slice A0_2 l0_2.length c0_2, .slice A0_3 l0_3.length c0_3, .slice A0_4 l0_4.length c0_4, .slice A0_5 l0_5.length c0_5] 25 (0, 0))) := ⟨bkq BK198⟩
                     have n6_ : Aside0 ((w103.setCell ⟨gb209, 3, none⟩ (.slice Ao104 y229.length co104)).heap[gb199]? = some (.cells #[.slice none 0 0, .slice none 0 0] 30 (0, 0))) := ⟨bkq BK199⟩
                     have n7_ : Aside0 ((w103.setCell ⟨gb209, 3, none⟩ (.slice Ao104 y229.length co104)).heap[gb200]? = some (.cells #[u201000, u201001] 30 (0, 0))) := ⟨bkq BK200⟩
                     have n8_ : Aside0 ((w103.setCell ⟨gb209, 3, none⟩ (.slice Ao104 y229.length co104)).heap[gb209]? = some (.cells #[.string t208, u210001, .slice (some ad228) x210002_5.length co100, .slice Ao104 y229.length co104, .int .i64 0] 46 (0, 0))) := ⟨bkp BK209⟩
                     have n9_ : Aside0 (Below w.heap.size w (w103.setCell ⟨gb209, 3, none⟩ (.slice Ao104 y229.length co104))) := ⟨by repeat (first | (with_reducible first | exact HB.out | apply below_alloc | apply pw_below_drewN | apply below_drew1 | refine below_set ?_ GE198.out | refine below_set ?_ GE199.out | refine below_set ?_ GE200.out | refine below_set ?_ GE209.out) | exact HB.out)⟩
                     (try clear HO_201000)
                     (try clear HO_201001)
                     (try clear HO_210001)
                     (try clear HO_210002)
                     (try clear HO231)
                     (try clear BK198)
                     (try clear BK199)
                     (try clear BK200)
                     (try clear BK209)
                     (try clear HB)
                     generalize (w103.setCell ⟨gb209, 3, none⟩ (.slice Ao104 y229.length co104)) = w106 at n0_ n1_ n2_ n3_ n4_ n5_ n6_ n7_ n8_ n9_ ⊢
                     have HO_201000 := n0_
                     have HO_201001 := n1_
                     have HO_210001 := n2_
                     have HO_210002 := n3_
                     have HO231 := n4_
                     have BK198 := n5_
                     have BK199 := n6_
                     have BK200 := n7_
                     have BK209 := n8_
                     have HB := n9_
                     clear n0_ n1_ n2_ n3_ n4_ n5_ n6_ n7_ n8_ n9_
                     have hnb107 := NB200_199.out
                     have hnc107 := NB199_200.out
                     obtain ⟨hcz108_0, hcz108_1, hfz108_0, hfz108_1⟩ := bc2 BK200
                     obtain ⟨hcz109_0, hcz109_1, hcz109_2, hcz109_3, hcz109_4, hfz109_0, hfz109_1, hfz109_2, hfz109_3, hfz109_4⟩ := bc5 BK209
                     obtain ⟨Ao111, co111, eo111⟩ := Kd.R_slice HO_210001.out
                     subst eo111
                     try go_wp2_with (first | ((with_reducible refine gate_builtin (b := .append) (xs := #[.tmp 170, .tmp 172]) rfl ?_); (try (refine gate_guard (by rfl) ?_; dsimp only)); at_builtin; refine Kd.S_append k46 (w0 := w) w.heap.size rfl (.tmp 170) (.tmp 172) 28 46 (.agg #[(.string ⟨#[]⟩), (.slice none 0 0), (.slice none 0 0), (.slice none 0 0), (.int .i64 0)]) 96 rfl Tryd.underlying28 info46 rfl (by decide) (by omega) u201001 x201001_2 (⟨t208, x210001_36, x210002_5, y229, 0⟩ : S46) [.string t208, .slice Ao111 x210001_36.length co111, .slice (some ad228) x210002_5.length co100, .slice Ao104 y229.length co104, .int .i64 0] (fun k_ => k_ ≠ gb209) (fun k_ => some k_ = (.slice Ao111 x210001_36.length co111 : Value).ownBlock ∨ some k_ = (.slice (some ad228) x210002_5.length co100 : Value).ownBlock ∨ some k_ = (.slice Ao104 y229.length co104 : Value).ownBlock) rfl rfl ?aP (fun k_ hk_ => hk_.elim (fun h_ => ((Kd.R_mono (ok' := fun k_ => ((fun k_ => k_ ≠ gb209)) k_ ∧ some k_ ≠ (u201001 : Value).ownBlock) (Kd.R_types (Kd.R_apart' (HO_210001.out) (Kd.S_typed HO_201001.out) (by decide)) BK209.out (by decide)) (fun k_ hk => ⟨hk.2, hk.1.2⟩))).1 k_ h_.symm) (fun h_ => h_.elim (fun h_ => ((Kd.R_mono (ok' := fun k_ => ((fun k_ => k_ ≠ gb209)) k_ ∧ some k_ ≠ (u201001 : Value).ownBlock) (Kd.R_types (Kd.R_apart' (HO_210002.out) (Kd.S_typed HO_201001.out) (by decide)) BK209.out (by decide)) (fun k_ hk => ⟨hk.2, hk.1.2⟩))).1 k_ h_.symm) (fun h_ => ((Kd.R_mono (ok' := fun k_ => ((fun k_ => k_ ≠ gb209)) k_ ∧ some k_ ≠ (u201001 : Value).ownBlock) (Kd.R_types (Kd.R_apart' (HO231.out) (Kd.S_typed HO_201001.out) (by decide)) BK209.out (by decide)) (fun k_ hk => ⟨hk.2, hk.1.2⟩))).1 k_ h_.symm))) ?aF ?aO ?aB ?aS ?aL ?_; (case aP => exact k46_mkM _ _ _ (⟨t208, x210001_36, x210002_5, y229, 0⟩ : S46) (Kd.R_mono (Kd.R_tight rfl (Kd.R_mono (ok' := fun k_ => ((fun k_ => k_ ≠ gb209)) k_ ∧ some k_ ≠ (u201001 : Value).ownBlock) (Kd.R_types (Kd.R_apart' (HO_210001.out) (Kd.S_typed HO_201001.out) (by decide)) BK209.out (by decide)) (fun k_ hk => ⟨hk.2, hk.1.2⟩))) (fun _ h_ => Or.inl h_)) (Kd.R_mono (Kd.R_tight rfl (Kd.R_mono (ok' := fun k_ => ((fun k_ => k_ ≠ gb209)) k_ ∧ some k_ ≠ (u201001 : Value).ownBlock) (Kd.R_types (Kd.R_apart' (HO_210002.out) (Kd.S_typed HO_201001.out) (by decide)) BK209.out (by decide)) (fun k_ hk => ⟨hk.2, hk.1.2⟩))) (fun _ h_ => Or.inr (Or.inl h_))) (Kd.R_mono (Kd.R_tight rfl (Kd.R_mono (ok' := fun k_ => ((fun k_ => k_ ≠ gb209)) k_ ∧ some k_ ≠ (u201001 : Value).ownBlock) (Kd.R_types (Kd.R_apart' (HO231.out) (Kd.S_typed HO_201001.out) (by decide)) BK209.out (by decide)) (fun k_ hk => ⟨hk.2, hk.1.2⟩))) (fun _ h_ => Or.inr (Or.inr (h_))))); (case aB => exact bel); (case aF => exact (fun k_ hk => Kd.freshB (bkq BK209) k_ hk)); (case aO => exact (by (with_reducible repeat (first | apply Kd.S_alloc | apply Kd.S_drewN | apply Kd.S_drew)); exact Kd.S_mono HO_201001.out (fun k_ hk => ⟨hk.2.2.2, fun e_ => e_.elim (fun h_ => hk.1 h_) (fun h_ => h_.elim (fun h_ => hk.2.1 h_) (fun h_ => hk.2.2.1 h_))⟩))); (case aS => exact (below_size bel)); (case aL => have := LMc92.out; omega); intro v233 w110 ho hb hg hat; rw [← Ny232.out] at ho; have HO234 := Aside0.mk ho; replace HO_201000 := Aside0.mk (Kd.S_over' (kS HO_201000) (Kd.S_typed (kS HO_201001)) (by decide) hg); replace BK198 := Aside0.mk (blk_grown (bkq BK198) hg (Kd.S_ne HO_201001.out BK198.out (by decide))); replace BK199 := Aside0.mk (blk_grown (bkq BK199) hg (Kd.S_ne HO_201001.out BK199.out (by decide))); replace BK200 := Aside0.mk (blk_grown (bkq BK200) hg (Kd.S_ne HO_201001.out BK200.out (by decide))); replace BK209 := Aside0.mk (blk_grown (bkq BK209) hg (Kd.S_away HO_201001.out (fun _ hk => hk.2.2.2))); replace HB := Aside0.mk (hb); clear HO_201001 HO231 HO_210001 HO_210002; clear ho hb hg hat; obtain ⟨Ao112, co112, eo112⟩ := Kd.S_slice HO234.out; subst eo112; obtain ⟨hcz113_0, hcz113_1, hfz113_0, hfz113_1⟩ := bc2 BK200))
                     go_roundg k5
                     case measure => have := HK1.out; have := HK2.out; have := HJ26.out; have := HJ36.out; have := HK5.out; omega
                     case rel => exact ⟨(wrap64 (x7_2 + 1)), (y232), (.slice Ao112 y232.length co112), (by first | rfl | (simp; done) | (simp [*]; done)), H', ⟨by have := HK1.out; have := HK2.out; have := HJ26.out; have := HJ36.out; have := HK5.out; omega⟩, ⟨by (with_reducible repeat (first | apply Kd.S_alloc | apply Kd.S_drewN | apply Kd.S_drew)); exact Kd.S_mono (Kd.S_far (p := ⟨gb200, 1, none⟩) (Kd.S_types HO_201000.out BK200.out (by decide)) (fun _ hk => hk.2) (.slice Ao112 y232.length co112)) (fun _ hk => trivial)⟩, ⟨by (with_reducible repeat (first | apply Kd.S_alloc | apply Kd.S_drewN | apply Kd.S_drew)); exact Kd.S_mono (Kd.S_far (p := ⟨gb200, 1, none⟩) (Kd.S_types HO234.out BK200.out (by decide)) (fun _ hk => hk.2) (.slice Ao112 y232.length co112)) (fun _ hk => trivial)⟩, ⟨bkq BK198⟩, ⟨bkq BK199⟩, ⟨bkp BK200⟩, ⟨by repeat (first | (with_reducible first | exact HB.out | apply below_alloc | apply pw_below_drewN | apply below_drew1 | refine below_set ?_ GE198.out | refine below_set ?_ GE199.out | refine below_set ?_ GE200.out | refine below_set ?_ GE209.out) | exact HB.out)⟩⟩
                    ·rw [if_neg c92] at H
                     exact absurd H (by simp)
                   ·rw [if_neg c91] at H
                    exact absurd H (by simp)
                  ·rw [if_neg c90] at H
                   exact absurd H (by simp)
                 ·rw [if_neg c89] at H
                  exact absurd H (by simp)
               ·rw [if_neg c85] at H
                have c85b0 := decide_eq_false c85
                have c85b1 : decide (0 < x210002_5.length) = false := decide_eq_false (by omega)
                clear c85
                by_cases c114 : x201001_2.length < 1466015503701
                ·rw [if_pos c114] at H
                 have LMc114 := Aside0.mk c114
                 clear c114
                 obtain ⟨y235, hy235⟩ : ∃ y_ : List (S46), y_ = (x201001_2 ++ [(⟨t208, x210001_36, x210002_5, ([] : List (S60)), 0⟩ : S46)]) := ⟨_, rfl⟩
                 replace H : (maquettelaw07_Shape_Config.l1 k5 (wrap64 (Int.tmod a0_0 8)) (wrap64 (x7_2 + 1)) a0_0 l0_1 l0_2 l0_3 l0_4 l0_5 x201000_1 y235) = some (r1, r2) := by first | (rw [hy235]; with_reducible exact H) | (have H2_ := (Option.bind_some _ _).symm.trans H; rw [hy235]; with_reducible exact H2_) | (have H2_ := (Option.bind_some _ _).symm.trans H; with_reducible exact H2_) | with_reducible exact H | (rw [hy235]; exact H) | exact H
                 have Ny235 := Aside0.mk hy235
                 clear hy235
                 have H' := Aside0.mk H
                 clear H
                 have hnb115 := NB198_199.out
                 have hnc115 := NB199_198.out
                 have hnb116 := NB198_200.out
                 have hnc116 := NB200_198.out
                 have hnb117 := NB198_209.out
                 have hnc117 := NB209_198.out
                 obtain ⟨hcz118_0, hcz118_1, hcz118_2, hcz118_3, hcz118_4, hcz118_5, hfz118_0, hfz118_1, hfz118_2, hfz118_3, hfz118_4, hfz118_5⟩ := bc6 BK198
                 go_wp2_with (first | ((with_reducible refine gate_dst (N := 139) rfl ?_); refine gl (some 139) Tryd.func16 #[.slice A0_5 l0_5.length c0_5, .int .i64 x7_2] ?_; (with_reducible refine (maquettelaw07_number.calls _ _ l0_5 x7_2 t225 _ ?side1 ?side2 A83.out).mono ?_); (case side1 => exact kcb HR0_5); (case side2 => exact HC0_5.out); rintro e w' ⟨rfl, ⟨nd, rfl⟩⟩; refine ⟨_, rfl, ?_⟩; (try (rw [drewN_self wr]; generalize hq_ : World.drewN wr _ = wr; replace HO_201000 := dS hq_ HO_201000; replace HO_201001 := dS hq_ HO_201001; replace HO_210001 := dR hq_ HO_210001; replace HO_210002 := dR hq_ HO_210002; replace BK198 := bkd hq_ BK198; replace BK199 := bkd hq_ BK199; replace BK200 := bkd hq_ BK200; replace BK209 := bkd hq_ BK209; replace HB := bld (w := w) hq_; clear hq_)); have hnb119 := NB209_199.out; have hnc119 := NB199_209.out; have hnb120 := NB209_200.out; have hnc120 := NB200_209.out; obtain ⟨hcz121_0, hcz121_1, hcz121_2, hcz121_3, hcz121_4, hfz121_0, hfz121_1, hfz121_2, hfz121_3, hfz121_4⟩ := bc5 BK209; obtain ⟨Ao122, co122, eo122⟩ := Kd.R_slice HO_210002.out; subst eo122; have hnb123 := NB200_199.out; have hnc123 := NB199_200.out; obtain ⟨hcz124_0, hcz124_1, hfz124_0, hfz124_1⟩ := bc2 BK200; obtain ⟨Ao126, co126, eo126⟩ := Kd.R_slice HO_210001.out; subst eo126) | ((with_reducible refine gate_builtin (b := .append) (xs := #[.tmp 170, .tmp 172]) rfl ?_); (try (refine gate_guard (by rfl) ?_; dsimp only)); at_builtin; refine Kd.S_append k46 (w0 := w) w.heap.size rfl (.tmp 170) (.tmp 172) 28 46 (.agg #[(.string ⟨#[]⟩), (.slice none 0 0), (.slice none 0 0), (.slice none 0 0), (.int .i64 0)]) 96 rfl Tryd.underlying28 info46 rfl (by decide) (by omega) u201001 x201001_2 (⟨t208, x210001_36, x210002_5, ([] : List (S60)), 0⟩ : S46) [.string t208, .slice Ao126 x210001_36.length co126, .slice Ao122 x210002_5.length co122, .slice none 0 0, .int .i64 0] (fun k_ => k_ ≠ gb209) (fun k_ => some k_ = (.slice Ao126 x210001_36.length co126 : Value).ownBlock ∨ some k_ = (.slice Ao122 x210002_5.length co122 : Value).ownBlock) rfl rfl ?aP (fun k_ hk_ => hk_.elim (fun h_ => ((Kd.R_mono (ok' := fun k_ => ((fun k_ => k_ ≠ gb209)) k_ ∧ some k_ ≠ (u201001 : Value).ownBlock) (Kd.R_types (Kd.R_apart' (HO_210001.out) (Kd.S_typed HO_201001.out) (by decide)) BK209.out (by decide)) (fun k_ hk => ⟨hk.2, hk.1.2⟩))).1 k_ h_.symm) (fun h_ => ((Kd.R_mono (ok' := fun k_ => ((fun k_ => k_ ≠ gb209)) k_ ∧ some k_ ≠ (u201001 : Value).ownBlock) (Kd.R_types (Kd.R_apart' (HO_210002.out) (Kd.S_typed HO_201001.out) (by decide)) BK209.out (by decide)) (fun k_ hk => ⟨hk.2, hk.1.2⟩))).1 k_ h_.symm)) ?aF ?aO ?aB ?aS ?aL ?_; (case aP => exact k46_mkM _ _ _ (⟨t208, x210001_36, x210002_5, ([] : List (S60)), 0⟩ : S46) (Kd.R_mono (Kd.R_tight rfl (Kd.R_mono (ok' := fun k_ => ((fun k_ => k_ ≠ gb209)) k_ ∧ some k_ ≠ (u201001 : Value).ownBlock) (Kd.R_types (Kd.R_apart' (HO_210001.out) (Kd.S_typed HO_201001.out) (by decide)) BK209.out (by decide)) (fun k_ hk => ⟨hk.2, hk.1.2⟩))) (fun _ h_ => Or.inl h_)) (Kd.R_mono (Kd.R_tight rfl (Kd.R_mono (ok' := fun k_ => ((fun k_ => k_ ≠ gb209)) k_ ∧ some k_ ≠ (u201001 : Value).ownBlock) (Kd.R_types (Kd.R_apart' (HO_210002.out) (Kd.S_typed HO_201001.out) (by decide)) BK209.out (by decide)) (fun k_ hk => ⟨hk.2, hk.1.2⟩))) (fun _ h_ => Or.inr (h_))) (Kd.R_nil _ _ _ _ _)); (case aB => exact bel); (case aF => exact (fun k_ hk => Kd.freshB (bkq BK209) k_ hk)); (case aO => exact (by (with_reducible repeat (first | apply Kd.S_alloc | apply Kd.S_drewN | apply Kd.S_drew)); exact Kd.S_mono HO_201001.out (fun k_ hk => ⟨hk.2.2, fun e_ => e_.elim (fun h_ => hk.1 h_) (fun h_ => hk.2.1 h_)⟩))); (case aS => exact (below_size bel)); (case aL => have := LMc114.out; omega); intro v236 w125 ho hb hg hat; rw [← Ny235.out] at ho; have HO237 := Aside0.mk ho; replace HO_201000 := Aside0.mk (Kd.S_over' (kS HO_201000) (Kd.S_typed (kS HO_201001)) (by decide) hg); replace BK198 := Aside0.mk (blk_grown (bkq BK198) hg (Kd.S_ne HO_201001.out BK198.out (by decide))); replace BK199 := Aside0.mk (blk_grown (bkq BK199) hg (Kd.S_ne HO_201001.out BK199.out (by decide))); replace BK200 := Aside0.mk (blk_grown (bkq BK200) hg (Kd.S_ne HO_201001.out BK200.out (by decide))); replace BK209 := Aside0.mk (blk_grown (bkq BK209) hg (Kd.S_away HO_201001.out (fun _ hk => hk.2.2))); replace HB := Aside0.mk (hb); clear HO_201001 HO_210001 HO_210002; clear ho hb hg hat; obtain ⟨Ao127, co127, eo127⟩ := Kd.S_slice HO237.out; subst eo127; obtain ⟨hcz128_0, hcz128_1, hfz128_0, hfz128_1⟩ := bc2 BK200))
                 go_roundg k5
                 case measure => have := HK1.out; have := HK2.out; have := HJ26.out; have := HJ36.out; have := HK5.out; omega
                 case rel => exact ⟨(wrap64 (x7_2 + 1)), (y235), (.slice Ao127 y235.length co127), (by first | rfl | (simp; done) | (simp [*]; done)), H', ⟨by have := HK1.out; have := HK2.out; have := HJ26.out; have := HJ36.out; have := HK5.out; omega⟩, ⟨by (with_reducible repeat (first | apply Kd.S_alloc | apply Kd.S_drewN | apply Kd.S_drew)); exact Kd.S_mono (Kd.S_far (p := ⟨gb200, 1, none⟩) (Kd.S_types HO_201000.out BK200.out (by decide)) (fun _ hk => hk.2) (.slice Ao127 y235.length co127)) (fun _ hk => trivial)⟩, ⟨by (with_reducible repeat (first | apply Kd.S_alloc | apply Kd.S_drewN | apply Kd.S_drew)); exact Kd.S_mono (Kd.S_far (p := ⟨gb200, 1, none⟩) (Kd.S_types HO237.out BK200.out (by decide)) (fun _ hk => hk.2) (.slice Ao127 y235.length co127)) (fun _ hk => trivial)⟩, ⟨bkq BK198⟩, ⟨bkq BK199⟩, ⟨bkp BK200⟩, ⟨by repeat (first | (with_reducible first | exact HB.out | apply below_alloc | apply pw_below_drewN | apply below_drew1 | refine below_set ?_ GE198.out | refine below_set ?_ GE199.out | refine below_set ?_ GE200.out | refine below_set ?_ GE209.out) | exact HB.out)⟩⟩
                ·rw [if_neg c114] at H
                 exact absurd H (by simp)
              ·rw [if_neg c84] at H
               have c84b0 : ((Int.tmod t225 5) == 4) = false := beq_eq_false_iff_ne.mpr c84
               have c84b1 : ((Int.tmod t225 5) != 4) = true := bne_iff_ne.mpr c84
               by_cases c129 : x201001_2.length < 1466015503701
               ·rw [if_pos c129] at H
                have LMc129 := Aside0.mk c129
                clear c129
                obtain ⟨y238, hy238⟩ : ∃ y_ : List (S46), y_ = (x201001_2 ++ [(⟨t208, x210001_36, x210002_5, ([] : List (S60)), 0⟩ : S46)]) := ⟨_, rfl⟩
                replace H : (maquettelaw07_Shape_Config.l1 k5 (wrap64 (Int.tmod a0_0 8)) (wrap64 (x7_2 + 1)) a0_0 l0_1 l0_2 l0_3 l0_4 l0_5 x201000_1 y238) = some (r1, r2) := by first | (rw [hy238]; with_reducible exact H) | (have H2_ := (Option.bind_some _ _).symm.trans H; rw [hy238]; with_reducible exact H2_) | (have H2_ := (Option.bind_some _ _).symm.trans H; with_reducible exact H2_) | with_reducible exact H | (rw [hy238]; exact H) | exact H
                have Ny238 := Aside0.mk hy238
                clear hy238
                have H' := Aside0.mk H
                clear H
                have hnb130 := NB198_199.out
                have hnc130 := NB199_198.out
                have hnb131 := NB198_200.out
                have hnc131 := NB200_198.out
                have hnb132 := NB198_209.out
                have hnc132 := NB209_198.out
                obtain ⟨hcz133_0, hcz133_1, hcz133_2, hcz133_3, hcz133_4, hcz133_5, hfz133_0, hfz133_1, hfz133_2, hfz133_3, hfz133_4, hfz133_5⟩ := bc6 BK198
                go_wp2_with (first | ((with_reducible refine gate_dst (N := 139) rfl ?_); refine gl (some 139) Tryd.func16 #[.slice A0_5 l0_5.length c0_5, .int .i64 x7_2] ?_; (with_reducible refine (maquettelaw07_number.calls _ _ l0_5 x7_2 t225 _ ?side1 ?side2 A83.out).mono ?_); (case side1 => exact kcb HR0_5); (case side2 => exact HC0_5.out); rintro e w' ⟨rfl, ⟨nd, rfl⟩⟩; refine ⟨_, rfl, ?_⟩; (try (rw [drewN_self wr]; generalize hq_ : World.drewN wr _ = wr; replace HO_201000 := dS hq_ HO_201000; replace HO_201001 := dS hq_ HO_201001; replace HO_210001 := dR hq_ HO_210001; replace HO_210002 := dR hq_ HO_210002; replace BK198 := bkd hq_ BK198; replace BK199 := bkd hq_ BK199; replace BK200 := bkd hq_ BK200; replace BK209 := bkd hq_ BK209; replace HB := bld (w := w) hq_; clear hq_)); have hnb134 := NB200_199.out; have hnc134 := NB199_200.out; have hnb135 := NB200_209.out; have hnc135 := NB209_200.out; obtain ⟨hcz136_0, hcz136_1, hfz136_0, hfz136_1⟩ := bc2 BK200; have hnb137 := NB209_199.out; have hnc137 := NB199_209.out; obtain ⟨hcz138_0, hcz138_1, hcz138_2, hcz138_3, hcz138_4, hfz138_0, hfz138_1, hfz138_2, hfz138_3, hfz138_4⟩ := bc5 BK209; obtain ⟨Ao140, co140, eo140⟩ := Kd.R_slice HO_210001.out; subst eo140; obtain ⟨Ao141, co141, eo141⟩ := Kd.R_slice HO_210002.out; subst eo141) | ((with_reducible refine gate_builtin (b := .append) (xs := #[.tmp 170, .tmp 172]) rfl ?_); (try (refine gate_guard (by rfl) ?_; dsimp only)); at_builtin; refine Kd.S_append k46 (w0 := w) w.heap.size rfl (.tmp 170) (.tmp 172) 28 46 (.agg #[(.string ⟨#[]⟩), (.slice none 0 0), (.slice none 0 0), (.slice none 0 0), (.int .i64 0)]) 96 rfl Tryd.underlying28 info46 rfl (by decide) (by omega) u201001 x201001_2 (⟨t208, x210001_36, x210002_5, ([] : List (S60)), 0⟩ : S46) [.string t208, .slice Ao140 x210001_36.length co140, .slice Ao141 x210002_5.length co141, .slice none 0 0, .int .i64 0] (fun k_ => k_ ≠ gb209) (fun k_ => some k_ = (.slice Ao140 x210001_36.length co140 : Value).ownBlock ∨ some k_ = (.slice Ao141 x210002_5.length co141 : Value).ownBlock) rfl rfl ?aP (fun k_ hk_ => hk_.elim (fun h_ => ((Kd.R_mono (ok' := fun k_ => ((fun k_ => k_ ≠ gb209)) k_ ∧ some k_ ≠ (u201001 : Value).ownBlock) (Kd.R_types (Kd.R_apart' (HO_210001.out) (Kd.S_typed HO_201001.out) (by decide)) BK209.out (by decide)) (fun k_ hk => ⟨hk.2, hk.1.2⟩))).1 k_ h_.symm) (fun h_ => ((Kd.R_mono (ok' := fun k_ => ((fun k_ => k_ ≠ gb209)) k_ ∧ some k_ ≠ (u201001 : Value).ownBlock) (Kd.R_types (Kd.R_apart' (HO_210002.out) (Kd.S_typed HO_201001.out) (by decide)) BK209.out (by decide)) (fun k_ hk => ⟨hk.2, hk.1.2⟩))).1 k_ h_.symm)) ?aF ?aO ?aB ?aS ?aL ?_; (case aP => exact k46_mkM _ _ _ (⟨t208, x210001_36, x210002_5, ([] : List (S60)), 0⟩ : S46) (Kd.R_mono (Kd.R_tight rfl (Kd.R_mono (ok' := fun k_ => ((fun k_ => k_ ≠ gb209)) k_ ∧ some k_ ≠ (u201001 : Value).ownBlock) (Kd.R_types (Kd.R_apart' (HO_210001.out) (Kd.S_typed HO_201001.out) (by decide)) BK209.out (by decide)) (fun k_ hk => ⟨hk.2, hk.1.2⟩))) (fun _ h_ => Or.inl h_)) (Kd.R_mono (Kd.R_tight rfl (Kd.R_mono (ok' := fun k_ => ((fun k_ => k_ ≠ gb209)) k_ ∧ some k_ ≠ (u201001 : Value).ownBlock) (Kd.R_types (Kd.R_apart' (HO_210002.out) (Kd.S_typed HO_201001.out) (by decide)) BK209.out (by decide)) (fun k_ hk => ⟨hk.2, hk.1.2⟩))) (fun _ h_ => Or.inr (h_))) (Kd.R_nil _ _ _ _ _)); (case aB => exact bel); (case aF => exact (fun k_ hk => Kd.freshB (bkq BK209) k_ hk)); (case aO => exact (by (with_reducible repeat (first | apply Kd.S_alloc | apply Kd.S_drewN | apply Kd.S_drew)); exact Kd.S_mono HO_201001.out (fun k_ hk => ⟨hk.2.2, fun e_ => e_.elim (fun h_ => hk.1 h_) (fun h_ => hk.2.1 h_)⟩))); (case aS => exact (below_size bel)); (case aL => have := LMc129.out; omega); intro v239 w139 ho hb hg hat; rw [← Ny238.out] at ho; have HO240 := Aside0.mk ho; replace HO_201000 := Aside0.mk (Kd.S_over' (kS HO_201000) (Kd.S_typed (kS HO_201001)) (by decide) hg); replace BK198 := Aside0.mk (blk_grown (bkq BK198) hg (Kd.S_ne HO_201001.out BK198.out (by decide))); replace BK199 := Aside0.mk (blk_grown (bkq BK199) hg (Kd.S_ne HO_201001.out BK199.out (by decide))); replace BK200 := Aside0.mk (blk_grown (bkq BK200) hg (Kd.S_ne HO_201001.out BK200.out (by decide))); replace BK209 := Aside0.mk (blk_grown (bkq BK209) hg (Kd.S_away HO_201001.out (fun _ hk => hk.2.2))); replace HB := Aside0.mk (hb); clear HO_201001 HO_210001 HO_210002; clear ho hb hg hat; obtain ⟨Ao142, co142, eo142⟩ := Kd.S_slice HO240.out; subst eo142; obtain ⟨hcz143_0, hcz143_1, hfz143_0, hfz143_1⟩ := bc2 BK200))
                go_roundg k5
                case measure => have := HK1.out; have := HK2.out; have := HJ26.out; have := HJ36.out; have := HK5.out; omega
                case rel => exact ⟨(wrap64 (x7_2 + 1)), (y238), (.slice Ao142 y238.length co142), (by first | rfl | (simp; done) | (simp [*]; done)), H', ⟨by have := HK1.out; have := HK2.out; have := HJ26.out; have := HJ36.out; have := HK5.out; omega⟩, ⟨by (with_reducible repeat (first | apply Kd.S_alloc | apply Kd.S_drewN | apply Kd.S_drew)); exact Kd.S_mono (Kd.S_far (p := ⟨gb200, 1, none⟩) (Kd.S_types HO_201000.out BK200.out (by decide)) (fun _ hk => hk.2) (.slice Ao142 y238.length co142)) (fun _ hk => trivial)⟩, ⟨by (with_reducible repeat (first | apply Kd.S_alloc | apply Kd.S_drewN | apply Kd.S_drew)); exact Kd.S_mono (Kd.S_far (p := ⟨gb200, 1, none⟩) (Kd.S_types HO240.out BK200.out (by decide)) (fun _ hk => hk.2) (.slice Ao142 y238.length co142)) (fun _ hk => trivial)⟩, ⟨bkq BK198⟩, ⟨bkq BK199⟩, ⟨bkp BK200⟩, ⟨by repeat (first | (with_reducible first | exact HB.out | apply below_alloc | apply pw_below_drewN | apply below_drew1 | refine below_set ?_ GE198.out | refine below_set ?_ GE199.out | refine below_set ?_ GE200.out | refine below_set ?_ GE209.out) | exact HB.out)⟩⟩
               ·rw [if_neg c129] at H
                exact absurd H (by simp)
      ·rw [if_neg c24] at H
       have c24b0 := decide_eq_false c24
       clear c24
       simp only [Option.some.injEq, Prod.mk.injEq] at H
       obtain ⟨rfl, rfl⟩ := H
       have hnb144 := NB200_198.out
       have hnc144 := NB198_200.out
       have hnb145 := NB200_199.out
       have hnc145 := NB199_200.out
       obtain ⟨hcz146_0, hcz146_1, hfz146_0, hfz146_1⟩ := bc2 BK200
       obtain ⟨Ao147, co147, eo147⟩ := Kd.S_slice HO_201000.out
       subst eo147
       have hnb148 := NB199_198.out
       have hnc148 := NB198_199.out
       obtain ⟨hcz149_0, hcz149_1, hfz149_0, hfz149_1⟩ := bc2 BK199
       obtain ⟨Ao150, co150, eo150⟩ := Kd.S_slice HO_201001.out
       subst eo150
       go_wp2
       refine bodyPost_ret (results_cell_row rfl _ _ gb199 30 #[.slice Ao147 x201000_1.length co147, .slice Ao150 x201001_2.length co150] (0, 0) _ rfl (bkp BK199) Tryd.underlying30 rfl (by kernel_rfl)) rfl ?_
       exact ⟨_, _, by first | rfl | (simp [errW_none, errW_some] <;> rfl) | (simp [*, errW_none, errW_some] <;> rfl), by (with_reducible repeat (first | apply Kd.S_alloc | apply Kd.S_drewN | apply Kd.S_drew)); exact Kd.S_mono (Kd.S_far (p := ⟨gb199, 1, none⟩) (Kd.S_far (p := ⟨gb199, 0, none⟩) (Kd.S_types HO_201000.out BK199.out (by decide)) (fun _ hk => hk.2) (.slice Ao147 x201000_1.length co147)) (fun _ hk => hk.2) (.slice Ao150 x201001_2.length co150)) (fun _ hk => trivial), by (with_reducible repeat (first | apply Kd.S_alloc | apply Kd.S_drewN | apply Kd.S_drew)); exact Kd.S_mono (Kd.S_far (p := ⟨gb199, 1, none⟩) (Kd.S_far (p := ⟨gb199, 0, none⟩) (Kd.S_types HO_201001.out BK199.out (by decide)) (fun _ hk => hk.2) (.slice Ao147 x201000_1.length co147)) (fun _ hk => hk.2) (.slice Ao150 x201001_2.length co150)) (fun _ hk => trivial), by repeat (first | (with_reducible first | exact HB.out | apply below_alloc | apply pw_below_drewN | apply below_drew1 | refine below_set ?_ GE198.out | refine below_set ?_ GE199.out | refine below_set ?_ GE200.out) | exact HB.out)⟩

end Go.Proofs.YtjcopneljfcfoaaDoor.PRaw
