-- Written by wip/xprint.py of this work: the printer of the kit, with contracts of this work beside it, shortened.
import Derived.Test.YtncebbpnmpgjiaaShort
import Derived.Test.YtncebbpnmpgjiaaPMmx0
import Derived.Test.YtncebbpnmpgjiaaPMmx4
import Derived.Test.YtncebbpnmpgjiaaPMmx6
import Derived.Test.YtncebbpnmpgjiaaJ1
import Derived.Test.YtncebbpnmpgjiaaPMmx9
namespace Go.Proofs.Ytncebbpnmpgjiaa.PMm
open Go.RowKit Go.Proofs.Ytncebbpnmpgjiaa.Short Go.Proofs.YtncebbpnmpgjiaaW.PrintWords Go.Proofs.YtncebbpnmpgjiaaW.PrintLast Go.Proofs.YtncebbpnmpgjiaaW.PrintMore
attribute [local go_sem] max2_int min2_int max_two min_two max_three min_three max_four min_four   -- for this text's walks alone
set_option linter.unusedVariables false
set_option linter.unusedSimpArgs false

/-! ### maquettelaw07_Shape_Config: function 5 -/
mutual
def maquettelaw07_Shape_Config.l0 : Nat → List (List (S75)) → Int → Int → Int → List Int → List (List (S75)) → List Int → List Int → List Int → List (S57) → Option ((List (S57)) × (List (S53)))
 | 0, _, _, _, _, _, _, _, _, _, _ => none
 | k + 1, x15, x16, x17, x162000, x162001, x162002, x162003, x162004, x162005, x164000 => if x17 < x16 then (if 0 ≤ x17 then (if x17 < (x15.length : Int) then (if x17 < 4 then (if 1 + (Utf8.encode (wrap32 (wrap64 (97 + x17)))).size ≤ 9223372036854775807 then ((maquettelaw07_Clauses.f k (rd_L25 x15 x17)).bind fun t165 => (if x164000.length < 2932031007402 then (maquettelaw07_Shape_Config.l0 k x15 x16 (wrap64 (x17 + 1)) x162000 x162001 x162002 x162003 x162004 x162005 (x164000 ++ [(⟨(⟨#[109]⟩ : ByteArray) ++ (Utf8.encode (wrap32 (wrap64 (97 + x17)))), t165, 0⟩ : S57)])) else (none))) else (none)) else (maquettelaw07_Shape_Config.l0 k x15 x16 (wrap64 (x17 + 1)) x162000 x162001 x162002 x162003 x162004 x162005 x164000)) else (none)) else (none)) else (maquettelaw07_Shape_Config.l1 k (wrap64 (Int.tmod x162000 8)) 0 x162000 x162001 x162002 x162003 x162004 x162005 x164000 ([] : List (S53)))
def maquettelaw07_Shape_Config.l1 : Nat → Int → Int → Int → List Int → List (List (S75)) → List Int → List Int → List Int → List (S57) → List (S53) → Option ((List (S57)) × (List (S53)))
 | 0, _, _, _, _, _, _, _, _, _, _ => none
 | k + 1, x6, x7, x162000, x162001, x162002, x162003, x162004, x162005, x164000, x164001 => if x7 < x6 then ((maquettelaw07_Name.f x7).bind fun t171 => ((maquettelaw07_number.f x162004 x7).bind fun t173 => (if x7 = 0 then (maquettelaw07_Shape_Config.j2 k x6 x7 t173 true x162000 x162001 x162002 x162003 x162004 x162005 x164000 x164001 t171 0) else (maquettelaw07_Shape_Config.j2 k x6 x7 t173 ((Int.tmod t173 4) == 0) x162000 x162001 x162002 x162003 x162004 x162005 x164000 x164001 t171 0)))) else (some (x164000, x164001))
def maquettelaw07_Shape_Config.j2 : Nat → Int → Int → Int → Bool → Int → List Int → List (List (S75)) → List Int → List Int → List Int → List (S57) → List (S53) → ByteArray → Int → Option ((List (S57)) × (List (S53)))
 | 0, _, _, _, _, _, _, _, _, _, _, _, _, _, _ => none
 | k + 1, x6, x7, x9, x60, x162000, x162001, x162002, x162003, x162004, x162005, x164000, x164001, x173000, x173004 => if x60 = true then ((maquettelaw05_Make.f k ((x9) % 256)).bind fun bt174 => (if ([] : List (S36)).length < 8796093022208 then (maquettelaw07_Shape_Config.j3 k x6 x7 x162000 x162001 x162002 x162003 x162004 x162005 x164000 x164001 x173000 (([] : List (S36)) ++ [(⟨bt174.1, bt174.2⟩ : S36)]) x173004) else (none))) else (maquettelaw07_Shape_Config.j3 k x6 x7 x162000 x162001 x162002 x162003 x162004 x162005 x164000 x164001 x173000 ([] : List (S36)) x173004)
def maquettelaw07_Shape_Config.j3 : Nat → Int → Int → Int → List Int → List (List (S75)) → List Int → List Int → List Int → List (S57) → List (S53) → ByteArray → List (S36) → Int → Option ((List (S57)) × (List (S53)))
 | 0, _, _, _, _, _, _, _, _, _, _, _, _, _ => none
 | k + 1, x6, x7, x162000, x162001, x162002, x162003, x162004, x162005, x164000, x164001, x173000, x173001, x173004 => maquettelaw07_Shape_Config.l2 k x6 x7 0 x162000 x162001 x162002 x162003 x162004 x162005 x164000 x164001 x173000 x173001 ([] : List (S49)) x173004
def maquettelaw07_Shape_Config.l2 : Nat → Int → Int → Int → Int → List Int → List (List (S75)) → List Int → List Int → List Int → List (S57) → List (S53) → ByteArray → List (S36) → List (S49) → Int → Option ((List (S57)) × (List (S53)))
 | 0, _, _, _, _, _, _, _, _, _, _, _, _, _, _, _ => none
 | k + 1, x6, x7, x10, x162000, x162001, x162002, x162003, x162004, x162005, x164000, x164001, x173000, x173001, x173002, x173004 => if x10 < x6 then (if x10 = x7 then (maquettelaw07_Shape_Config.j5 k x6 x7 x10 (wrap64 ((wrap64 ((mn x10 x7) * x6)) + (mx x10 x7))) false x162000 x162001 x162002 x162003 x162004 x162005 x164000 x164001 x173000 x173001 x173002 x173004) else ((maquettelaw07_number.f x162001 (wrap64 ((wrap64 ((mn x10 x7) * x6)) + (mx x10 x7)))).bind fun t179 => (if (Int.tmod t179 3) > 0 then (maquettelaw07_Shape_Config.j5 k x6 x7 x10 (wrap64 ((wrap64 ((mn x10 x7) * x6)) + (mx x10 x7))) true x162000 x162001 x162002 x162003 x162004 x162005 x164000 x164001 x173000 x173001 x173002 x173004) else (if x10 = (wrap64 (x7 + 1)) then (maquettelaw07_Shape_Config.j5 k x6 x7 x10 (wrap64 ((wrap64 ((mn x10 x7) * x6)) + (mx x10 x7))) true x162000 x162001 x162002 x162003 x162004 x162005 x164000 x164001 x173000 x173001 x173002 x173004) else (maquettelaw07_Shape_Config.j5 k x6 x7 x10 (wrap64 ((wrap64 ((mn x10 x7) * x6)) + (mx x10 x7))) (x7 == (wrap64 (x10 + 1))) x162000 x162001 x162002 x162003 x162004 x162005 x164000 x164001 x173000 x173001 x173002 x173004))))) else ((maquettelaw07_number.f x162005 x7).bind fun t188 => (if (Int.tmod t188 5) = 4 then (if (x173002.length : Int) > 0 then ((maquettelaw05_Make.f k ((t188) % 256)).bind fun bt189 => (if (x173002.length : Int) = 0 then (none) else (if 0 ≤ (Int.tmod (wrap64 (Int.tdiv t188 8)) (x173002.length : Int)) then (if (Int.tmod (wrap64 (Int.tdiv t188 8)) (x173002.length : Int)) < (x173002.length : Int) then (if ([] : List (S62)).length < 3518437208883 then (if x164001.length < 1466015503701 then (maquettelaw07_Shape_Config.l1 k x6 (wrap64 (x7 + 1)) x162000 x162001 x162002 x162003 x162004 x162005 x164000 (x164001 ++ [(⟨x173000, x173001, x173002, (([] : List (S62)) ++ [(⟨(⟨bt189.1, bt189.2⟩ : S36), (rd_T49 x173002 (Int.tmod (wrap64 (Int.tdiv t188 8)) (x173002.length : Int))).f0, 0⟩ : S62)]), x173004⟩ : S53)])) else (none)) else (none)) else (none)) else (none)))) else (if x164001.length < 1466015503701 then (maquettelaw07_Shape_Config.l1 k x6 (wrap64 (x7 + 1)) x162000 x162001 x162002 x162003 x162004 x162005 x164000 (x164001 ++ [(⟨x173000, x173001, x173002, ([] : List (S62)), x173004⟩ : S53)])) else (none))) else (if x164001.length < 1466015503701 then (maquettelaw07_Shape_Config.l1 k x6 (wrap64 (x7 + 1)) x162000 x162001 x162002 x162003 x162004 x162005 x164000 (x164001 ++ [(⟨x173000, x173001, x173002, ([] : List (S62)), x173004⟩ : S53)])) else (none))))
def maquettelaw07_Shape_Config.j5 : Nat → Int → Int → Int → Int → Bool → Int → List Int → List (List (S75)) → List Int → List Int → List Int → List (S57) → List (S53) → ByteArray → List (S36) → List (S49) → Int → Option ((List (S57)) × (List (S53)))
 | 0, _, _, _, _, _, _, _, _, _, _, _, _, _, _, _, _, _ => none
 | k + 1, x6, x7, x10, x11, x105, x162000, x162001, x162002, x162003, x162004, x162005, x164000, x164001, x173000, x173001, x173002, x173004 => if x105 = true then ((maquettelaw07_number.f x162003 (wrap64 ((wrap64 (x7 * x6)) + x10))).bind fun t180 => ((maquettelaw07_Name.f x10).bind fun t181 => ((maquettelaw07_number.f x162001 x11).bind fun t182 => ((maquettelaw07_Shape_mapped.f x162000 x162001 x162002 x162003 x162004 x162005 t180).bind fun t183 => ((maquettelaw07_Shape_mapped.f x162000 x162001 x162002 x162003 x162004 x162005 (wrap64 (Int.tdiv t180 12))).bind fun t184 => (if x173002.length < 2199023255552 then (maquettelaw07_Shape_Config.l2 k x6 x7 (wrap64 (x10 + 1)) x162000 x162001 x162002 x162003 x162004 x162005 x164000 x164001 x173000 x173001 (x173002 ++ [(⟨t181, wrap64 (1 + (Int.tmod (wrap64 (Int.tdiv t182 3)) 3)), t183, t184, 0⟩ : S49)]) x173004) else (none))))))) else (maquettelaw07_Shape_Config.l2 k x6 x7 (wrap64 (x10 + 1)) x162000 x162001 x162002 x162003 x162004 x162005 x164000 x164001 x173000 x173001 x173002 x173004)
end
def maquettelaw07_Shape_Config.f (k : Nat) (a0_0 : Int) (l0_1 : List Int) (l0_2 : List (List (S75))) (l0_3 : List Int) (l0_4 : List Int) (l0_5 : List Int) : Option ((List (S57)) × (List (S53))) := maquettelaw07_Shape_Config.l0 k l0_2 (l0_2.length : Int) 0 a0_0 l0_1 l0_2 l0_3 l0_4 l0_5 ([] : List (S57))
theorem maquettelaw07_Shape_Config.mono_l : ∀ k, (∀ y0 y1 y2 y3 y4 y5 y6 y7 y8 y9, LeO (maquettelaw07_Shape_Config.l0 k y0 y1 y2 y3 y4 y5 y6 y7 y8 y9) (maquettelaw07_Shape_Config.l0 (k + 1) y0 y1 y2 y3 y4 y5 y6 y7 y8 y9)) ∧ (∀ y0 y1 y2 y3 y4 y5 y6 y7 y8 y9, LeO (maquettelaw07_Shape_Config.l1 k y0 y1 y2 y3 y4 y5 y6 y7 y8 y9) (maquettelaw07_Shape_Config.l1 (k + 1) y0 y1 y2 y3 y4 y5 y6 y7 y8 y9)) ∧ (∀ y0 y1 y2 y3 y4 y5 y6 y7 y8 y9 y10 y11 y12 y13, LeO (maquettelaw07_Shape_Config.j2 k y0 y1 y2 y3 y4 y5 y6 y7 y8 y9 y10 y11 y12 y13) (maquettelaw07_Shape_Config.j2 (k + 1) y0 y1 y2 y3 y4 y5 y6 y7 y8 y9 y10 y11 y12 y13)) ∧ (∀ y0 y1 y2 y3 y4 y5 y6 y7 y8 y9 y10 y11 y12, LeO (maquettelaw07_Shape_Config.j3 k y0 y1 y2 y3 y4 y5 y6 y7 y8 y9 y10 y11 y12) (maquettelaw07_Shape_Config.j3 (k + 1) y0 y1 y2 y3 y4 y5 y6 y7 y8 y9 y10 y11 y12)) ∧ (∀ y0 y1 y2 y3 y4 y5 y6 y7 y8 y9 y10 y11 y12 y13 y14, LeO (maquettelaw07_Shape_Config.l2 k y0 y1 y2 y3 y4 y5 y6 y7 y8 y9 y10 y11 y12 y13 y14) (maquettelaw07_Shape_Config.l2 (k + 1) y0 y1 y2 y3 y4 y5 y6 y7 y8 y9 y10 y11 y12 y13 y14)) ∧ (∀ y0 y1 y2 y3 y4 y5 y6 y7 y8 y9 y10 y11 y12 y13 y14 y15 y16, LeO (maquettelaw07_Shape_Config.j5 k y0 y1 y2 y3 y4 y5 y6 y7 y8 y9 y10 y11 y12 y13 y14 y15 y16) (maquettelaw07_Shape_Config.j5 (k + 1) y0 y1 y2 y3 y4 y5 y6 y7 y8 y9 y10 y11 y12 y13 y14 y15 y16))
 | 0 => ⟨fun _ _ _ _ _ _ _ _ _ _ r h => by simp [maquettelaw07_Shape_Config.l0] at h, fun _ _ _ _ _ _ _ _ _ _ r h => by simp [maquettelaw07_Shape_Config.l1] at h, fun _ _ _ _ _ _ _ _ _ _ _ _ _ _ r h => by simp [maquettelaw07_Shape_Config.j2] at h, fun _ _ _ _ _ _ _ _ _ _ _ _ _ r h => by simp [maquettelaw07_Shape_Config.j3] at h, fun _ _ _ _ _ _ _ _ _ _ _ _ _ _ _ r h => by simp [maquettelaw07_Shape_Config.l2] at h, fun _ _ _ _ _ _ _ _ _ _ _ _ _ _ _ _ _ r h => by simp [maquettelaw07_Shape_Config.j5] at h⟩
 | k + 1 => by
  obtain ⟨ih0, ih1, ih2, ih3, ih4, ih5⟩ := maquettelaw07_Shape_Config.mono_l k
  refine ⟨?_, ?_, ?_, ?_, ?_, ?_⟩<;> intros <;> (first | unfold maquettelaw07_Shape_Config.l0 | unfold maquettelaw07_Shape_Config.l1 | unfold maquettelaw07_Shape_Config.j2 | unfold maquettelaw07_Shape_Config.j3 | unfold maquettelaw07_Shape_Config.l2 | unfold maquettelaw07_Shape_Config.j5) <;> repeat' first
   | (with_reducible exact ih0 _ _ _ _ _ _ _ _ _ _)
   | (with_reducible exact ih1 _ _ _ _ _ _ _ _ _ _)
   | (with_reducible exact ih2 _ _ _ _ _ _ _ _ _ _ _ _ _ _)
   | (with_reducible exact ih3 _ _ _ _ _ _ _ _ _ _ _ _ _)
   | (with_reducible exact ih4 _ _ _ _ _ _ _ _ _ _ _ _ _ _ _)
   | (with_reducible exact ih5 _ _ _ _ _ _ _ _ _ _ _ _ _ _ _ _ _)
   | (with_reducible exact maquettelaw05_Make.mono _ _)
   | (with_reducible exact maquettelaw07_Clauses.mono _ _)
   | (with_reducible exact LeO.refl _)
   | (with_reducible exact LeO.none _)
   | (with_reducible refine LeO.ite ?_ ?_)
   | (with_reducible refine LeO.bind ?_ (fun _ => ?_))
   | exact ih0 _ _ _ _ _ _ _ _ _ _
   | exact ih1 _ _ _ _ _ _ _ _ _ _
   | exact ih2 _ _ _ _ _ _ _ _ _ _ _ _ _ _
   | exact ih3 _ _ _ _ _ _ _ _ _ _ _ _ _
   | exact ih4 _ _ _ _ _ _ _ _ _ _ _ _ _ _ _
   | exact ih5 _ _ _ _ _ _ _ _ _ _ _ _ _ _ _ _ _
   | exact maquettelaw05_Make.mono _ _
   | exact maquettelaw07_Clauses.mono _ _
   | exact LeO.none _
   | refine LeO.ite ?_ ?_
   | refine LeO.bind ?_ (fun _ => ?_)
theorem maquettelaw07_Shape_Config.mono : ∀ a0 a1 a2 a3 a4 a5 k, LeO (maquettelaw07_Shape_Config.f k a0 a1 a2 a3 a4 a5) (maquettelaw07_Shape_Config.f (k + 1) a0 a1 a2 a3 a4 a5) := by
 intro a0 a1 a2 a3 a4 a5 k
 obtain ⟨ih0, ih1, ih2, ih3, ih4, ih5⟩ := maquettelaw07_Shape_Config.mono_l k
 unfold maquettelaw07_Shape_Config.f
 repeat' first
   | (with_reducible exact ih0 _ _ _ _ _ _ _ _ _ _)
   | (with_reducible exact ih1 _ _ _ _ _ _ _ _ _ _)
   | (with_reducible exact ih2 _ _ _ _ _ _ _ _ _ _ _ _ _ _)
   | (with_reducible exact ih3 _ _ _ _ _ _ _ _ _ _ _ _ _)
   | (with_reducible exact ih4 _ _ _ _ _ _ _ _ _ _ _ _ _ _ _)
   | (with_reducible exact ih5 _ _ _ _ _ _ _ _ _ _ _ _ _ _ _ _ _)
   | (with_reducible exact maquettelaw05_Make.mono _ _)
   | (with_reducible exact maquettelaw07_Clauses.mono _ _)
   | (with_reducible exact LeO.refl _)
   | (with_reducible exact LeO.none _)
   | (with_reducible refine LeO.ite ?_ ?_)
   | (with_reducible refine LeO.bind ?_ (fun _ => ?_))
   | exact ih0 _ _ _ _ _ _ _ _ _ _
   | exact ih1 _ _ _ _ _ _ _ _ _ _
   | exact ih2 _ _ _ _ _ _ _ _ _ _ _ _ _ _
   | exact ih3 _ _ _ _ _ _ _ _ _ _ _ _ _
   | exact ih4 _ _ _ _ _ _ _ _ _ _ _ _ _ _ _
   | exact ih5 _ _ _ _ _ _ _ _ _ _ _ _ _ _ _ _ _
   | exact maquettelaw05_Make.mono _ _
   | exact maquettelaw07_Clauses.mono _ _
   | exact LeO.none _
   | refine LeO.ite ?_ ?_
   | refine LeO.bind ?_ (fun _ => ?_)
def maquettelaw07_Shape_Config.T6 : Bool × List (List Nat × List Nat) := (true, [([], []), ([0], [0]), ([], []), ([2], [2]), ([3], [3]), ([4], [4]), ([5], [5]), ([], []), ([7], [7]), ([6, 8], [6, 8]), ([9], [9]), ([1, 10, 8], [1, 10]), ([0, 1, 2, 3, 4, 5, 6, 7, 8, 9, 10, 11], []), ([12, 11, 11, 0, 1, 2, 3, 4, 5, 6, 7, 8, 9, 10, 11], [11, 12])])
def maquettelaw07_Shape_Config.B6 : List Nat := [0, 1, 0, 4, 12, 28, 60, 0, 128, 508, 1020, 2047, 4095, 8191]
theorem maquettelaw07_Shape_Config.tab6 : rtab .any (opsOf Try.f5 6) = maquettelaw07_Shape_Config.T6 := by kernel_rfl
theorem maquettelaw07_Shape_Config.bits6 : waitsOk maquettelaw07_Shape_Config.T6.2 maquettelaw07_Shape_Config.B6 = true := by kernel_rfl
def maquettelaw07_Shape_Config.T15 : Bool × List (List Nat × List Nat) := (true, [([], []), ([0], [0]), ([], []), ([2], [2]), ([3], [3]), ([4], [4]), ([1, 5, 4], [1, 5]), ([0, 1, 2, 3, 4, 5, 6], []), ([7, 6, 6, 0, 1, 2, 3, 4, 5, 6], [6, 7])])
def maquettelaw07_Shape_Config.B15 : List Nat := [0, 1, 0, 4, 12, 28, 63, 127, 255]
theorem maquettelaw07_Shape_Config.tab15 : rtab .any (opsOf Try.f5 15) = maquettelaw07_Shape_Config.T15 := by kernel_rfl
theorem maquettelaw07_Shape_Config.bits15 : waitsOk maquettelaw07_Shape_Config.T15.2 maquettelaw07_Shape_Config.B15 = true := by kernel_rfl
def maquettelaw07_Shape_Config.T22 : Bool × List (List Nat × List Nat) := (true, [([], []), ([0], [0]), ([], []), ([2], [2]), ([], []), ([4], [4]), ([], []), ([5, 6, 3], [5, 6]), ([7], [7]), ([8], [8]), ([9], [9]), ([], []), ([], []), ([11, 12, 7], [11, 12]), ([], []), ([], []), ([15], [15]), ([14, 16, 13], [14, 16]), ([3, 10, 13, 17], [3, 10, 13, 17]), ([18], [18]), ([1, 19, 17], [1, 19]), ([0, 1, 2, 3, 4, 5, 6, 7, 8, 9, 10, 11, 12, 13, 14, 15, 16, 17, 18, 19, 20], []), ([21, 20, 20, 0, 1, 2, 3, 4, 5, 6, 7, 8, 9, 10, 11, 12, 13, 14, 15, 16, 17, 18, 19, 20], [20, 21])])
def maquettelaw07_Shape_Config.B22 : List Nat := [0, 1, 0, 4, 0, 16, 0, 124, 252, 508, 1020, 0, 0, 6396, 0, 0, 32768, 129276, 262140, 524284, 1048575, 2097151, 4194303]
theorem maquettelaw07_Shape_Config.tab22 : rtab .any (opsOf Try.f5 22) = maquettelaw07_Shape_Config.T22 := by kernel_rfl
theorem maquettelaw07_Shape_Config.bits22 : waitsOk maquettelaw07_Shape_Config.T22.2 maquettelaw07_Shape_Config.B22 = true := by kernel_rfl
def maquettelaw07_Shape_Config.T25 : Bool × List (List Nat × List Nat) := (true, [([], []), ([0], [0]), ([], []), ([2], [2]), ([3], [3]), ([], []), ([5], [5]), ([], []), ([7], [7]), ([], []), ([9], [9]), ([10], [10]), ([8, 11], [8, 11]), ([6, 12], [6, 12]), ([13], [13]), ([14], [14]), ([4, 15], [4, 15]), ([16], [16]), ([1, 17, 4], [1, 17]), ([0, 1, 2, 3, 4, 5, 6, 7, 8, 9, 10, 11, 12, 13, 14, 15, 16, 17, 18], []), ([19, 18, 18, 0, 1, 2, 3, 4, 5, 6, 7, 8, 9, 10, 11, 12, 13, 14, 15, 16, 17, 18], [18, 19])])
def maquettelaw07_Shape_Config.B25 : List Nat := [0, 1, 0, 4, 12, 0, 32, 0, 128, 0, 512, 1536, 3968, 8160, 16352, 32736, 65532, 131068, 262143, 524287, 1048575]
theorem maquettelaw07_Shape_Config.tab25 : rtab .any (opsOf Try.f5 25) = maquettelaw07_Shape_Config.T25 := by kernel_rfl
theorem maquettelaw07_Shape_Config.bits25 : waitsOk maquettelaw07_Shape_Config.T25.2 maquettelaw07_Shape_Config.B25 = true := by kernel_rfl
set_option maxHeartbeats 8000000 in
set_option maxRecDepth 100000 in
theorem maquettelaw07_Shape_Config.calls (k : Nat) (a0_0 : Int) (A0_1 : Option Addr) (c0_1 : Nat) (l0_1 : List Int) (A0_2 : Option Addr) (c0_2 : Nat) (l0_2 : List (List (S75))) (A0_3 : Option Addr) (c0_3 : Nat) (l0_3 : List Int) (A0_4 : Option Addr) (c0_4 : Nat) (l0_4 : List Int) (A0_5 : Option Addr) (c0_5 : Nat) (l0_5 : List Int) (r1 : List (S57)) (r2 : List (S53)) (w : World) (hr0_1 : Kd.C (Kd.int .u8) w A0_1 l0_1.length l0_1) (hc0_1 : l0_1.length ≤ c0_1) (hr0_2 : Kd.C (Kd.slice 75 k75) w A0_2 l0_2.length l0_2) (hc0_2 : l0_2.length ≤ c0_2) (hr0_3 : Kd.C (Kd.int .u8) w A0_3 l0_3.length l0_3) (hc0_3 : l0_3.length ≤ c0_3) (hr0_4 : Kd.C (Kd.int .u8) w A0_4 l0_4.length l0_4) (hc0_4 : l0_4.length ≤ c0_4) (hr0_5 : Kd.C (Kd.int .u8) w A0_5 l0_5.length l0_5) (hc0_5 : l0_5.length ≤ c0_5) (h : maquettelaw07_Shape_Config.f k a0_0 l0_1 l0_2 l0_3 l0_4 l0_5 = some (r1, r2)) :
  Calls Try.prog 5 #[.agg #[.int .u8 a0_0, .slice A0_1 l0_1.length c0_1, .slice A0_2 l0_2.length c0_2, .slice A0_3 l0_3.length c0_3, .slice A0_4 l0_4.length c0_4, .slice A0_5 l0_5.length c0_5]] w fun e w' => ∃ v0_ v1_ : Value, e = .returned (.agg #[v0_, v1_]) ∧ Kd.S k57 57 w' w.heap.size (fun _ => True) v0_ r1 ∧ Kd.S k53 53 w' w.heap.size (fun _ => True) v1_ r2 ∧ Below w.heap.size w w' := by
 have hu25 := Try.underlying25
 have hu30 := Try.underlying30
 have hu57 := Try.underlying57
 have hu53 := Try.underlying53
 have hu49 := Try.underlying49
 have hu62 := Try.underlying62
 have HR0_1 := Aside0.mk hr0_1
 have HC0_1 := Aside0.mk hc0_1
 clear hr0_1 hc0_1
 have HR0_2 := Aside0.mk hr0_2
 have HC0_2 := Aside0.mk hc0_2
 clear hr0_2 hc0_2
 have HR0_3 := Aside0.mk hr0_3
 have HC0_3 := Aside0.mk hc0_3
 clear hr0_3 hc0_3
 have HR0_4 := Aside0.mk hr0_4
 have HC0_4 := Aside0.mk hc0_4
 clear hr0_4 hc0_4
 have HR0_5 := Aside0.mk hr0_5
 have HC0_5 := Aside0.mk hc0_5
 clear hr0_5 hc0_5
 have HB := Aside0.mk (Below.refl w.heap.size w)
 have H : (maquettelaw07_Shape_Config.l0 k l0_2 (l0_2.length : Int) 0 a0_0 l0_1 l0_2 l0_3 l0_4 l0_5 ([] : List (S57))) = some (r1, r2) := h
 clear h
 have H' := Aside0.mk H
 clear H
 go_enter Try.func5, Try.ntmps5
 go_wp2_with (first | ((with_reducible refine gate_dst (N := 1) rfl ?_); (try (refine gate_guard (by rfl) ?_; dsimp only)); refine bx 1 (cs := #[.int .u8 a0_0, .slice A0_1 l0_1.length c0_1, .slice A0_2 l0_2.length c0_2, .slice A0_3 l0_3.length c0_3, .slice A0_4 l0_4.length c0_4, .slice A0_5 l0_5.length c0_5]) (t := 25) (h := ?_); intro gb161 hg w2 hbox hb; have BK161 := Aside0.mk hbox; have GW161 : Aside0 (w.heap.size ≤ gb161) := bge hg; have GE161 : Aside0 (w.heap.size ≤ gb161) := bge hg; replace HB := bst hb; clear hb hbox hg) | ((with_reducible refine gate_dst (N := 2) rfl ?_); (try (refine gate_guard (by rfl) ?_; dsimp only)); refine bx 2 (cs := #[.slice none 0 0, .slice none 0 0]) (t := 30) (h := ?_); intro gb162 hg w3 hbox hb; have BK162 := Aside0.mk hbox; have GW162 : Aside0 (w.heap.size ≤ gb162) := bge hg; have GE162 : Aside0 (w.heap.size ≤ gb162) := bge hg; have NB161_162 := bne BK161 hg; have NB162_161 := bnf BK161 hg; replace BK161 := bkb BK161 hb; replace HB := bst hb; clear hb hbox hg) | ((with_reducible refine gate_dst (N := 3) rfl ?_); (try (refine gate_guard (by rfl) ?_; dsimp only)); refine bx 3 (cs := #[.slice none 0 0, .slice none 0 0]) (t := 30) (h := ?_); intro gb163 hg w4 hbox hb; have BK163 := Aside0.mk hbox; have GW163 : Aside0 (w.heap.size ≤ gb163) := bge hg; have GE163 : Aside0 (w.heap.size ≤ gb163) := bge hg; have NB161_163 := bne BK161 hg; have NB163_161 := bnf BK161 hg; have NB162_163 := bne BK162 hg; have NB163_162 := bnf BK162 hg; replace BK161 := bkb BK161 hb; replace BK162 := bkb BK162 hb; replace HB := bst hb; clear hb hbox hg; have hnb5 := NB161_162.out; have hnc5 := NB162_161.out; have hnb6 := NB161_163.out; have hnc6 := NB163_161.out; obtain ⟨hcz7_0, hcz7_1, hcz7_2, hcz7_3, hcz7_4, hcz7_5, hfz7_0, hfz7_1, hfz7_2, hfz7_3, hfz7_4, hfz7_5⟩ := bc6 BK161))
 go_loopg [17] k (fun kq v17 w' => ∃ (x17_1 : Int) (x164000_1 : List (S57)) (u164000 : Value), v17 = .int .i64 x17_1 ∧ Aside0 (maquettelaw07_Shape_Config.l0 kq l0_2 (l0_2.length : Int) x17_1 a0_0 l0_1 l0_2 l0_3 l0_4 l0_5 x164000_1 = some (r1, r2)) ∧ Aside0 (kq ≤ k) ∧ Aside0 (Kd.S k57 57 w' w.heap.size (fun _ => True) u164000 x164000_1) ∧ Aside0 (w'.heap[gb161]? = some (.cells #[.int .u8 a0_0, (.slice A0_1 l0_1.length c0_1), (.slice A0_2 l0_2.length c0_2), (.slice A0_3 l0_3.length c0_3), (.slice A0_4 l0_4.length c0_4), (.slice A0_5 l0_5.length c0_5)] 25 (0, 0))) ∧ Aside0 (w'.heap[gb162]? = some (.cells #[(.slice none 0 0), (.slice none 0 0)] 30 (0, 0))) ∧ Aside0 (w'.heap[gb163]? = some (.cells #[u164000, (.slice none 0 0)] 30 (0, 0))) ∧ Aside0 (Below w.heap.size w w'))
 case atStart => exact ⟨(0), (([] : List (S57))), (.slice none 0 0), (by first | rfl | (simp; done) | (simp [*]; done)), H', ⟨Nat.le_refl _⟩, ⟨by first | exact Kd.S_nil _ _ _ _ _ | exact Kd.N_nil _ _ _ _ _ | exact Kd.V_nil _ _ _ _ _ | exact Kd.Q_nil _ _ _ _ _ | exact Kd.R_nil _ _ _ _ _⟩, ⟨bkq BK161⟩, ⟨bkq BK162⟩, ⟨bkq BK163⟩, ⟨by repeat (first | (with_reducible first | exact HB.out | apply below_alloc | apply pw_below_drewN | apply below_drew1 | refine below_set ?_ GE161.out | refine below_set ?_ GE162.out | refine below_set ?_ GE163.out) | exact HB.out)⟩⟩
 case round =>
  clear H'
  try clear p2
  try clear c5
  try clear c6
  try clear hcz7_0 hcz7_1 hcz7_2 hcz7_3 hcz7_4 hcz7_5 hfz7_0 hfz7_1 hfz7_2 hfz7_3 hfz7_4 hfz7_5
  obtain ⟨x17_1, x164000_1, u164000, rfl, HA, HK1, HO_164000, BK161, BK162, BK163, HB⟩ := hrel
  cases gk with
  | zero => exact absurd HA.out (by simp [maquettelaw07_Shape_Config.l0])
  | succ k1 =>
   have H := HA.out
   clear HA
   simp only [maquettelaw07_Shape_Config.l0] at H
   by_cases c8 : x17_1 < (l0_2.length : Int)
   ·rw [if_pos c8] at H
    have c8b0 := decide_eq_true c8
    clear c8
    by_cases c9 : 0 ≤ x17_1
    ·rw [if_pos c9] at H
     have c9b0 := decide_eq_true c9
     clear c9
     by_cases c10 : x17_1 < (l0_2.length : Int)
     ·rw [if_pos c10] at H
      have c10b0 := decide_eq_true c10
      clear c10
      by_cases c11 : x17_1 < 4
      ·rw [if_pos c11] at H
       have c11b0 := decide_eq_true c11
       clear c11
       by_cases c12 : 1 + (Utf8.encode (wrap32 (wrap64 (97 + x17_1)))).size ≤ 9223372036854775807
       ·rw [if_pos c12] at H
        have c12b0 := eq_true c12
        have c12b1 := decide_eq_true c12
        try have c12b2 := eq_false (Nat.not_lt.2 c12)
        replace H := Option.bind_eq_some_iff.mp H
        obtain ⟨t165, A130, H⟩ := H
        replace H : (if x164000_1.length < 2932031007402 then (maquettelaw07_Shape_Config.l0 k1 l0_2 (l0_2.length : Int) (wrap64 (x17_1 + 1)) a0_0 l0_1 l0_2 l0_3 l0_4 l0_5 (x164000_1 ++ [(⟨(⟨#[109]⟩ : ByteArray) ++ (Utf8.encode (wrap32 (wrap64 (97 + x17_1)))), t165, 0⟩ : S57)])) else (none)) = some (r1, r2) := H
        have A13 := Aside0.mk A130
        clear A130
        by_cases c14 : x164000_1.length < 2932031007402
        ·rw [if_pos c14] at H
         have LMc14 := Aside0.mk c14
         clear c14
         obtain ⟨y168, hy168⟩ : ∃ y_ : List (S57), y_ = (x164000_1 ++ [(⟨(⟨#[109]⟩ : ByteArray) ++ (Utf8.encode (wrap32 (wrap64 (97 + x17_1)))), t165, 0⟩ : S57)]) := ⟨_, rfl⟩
         replace H : (maquettelaw07_Shape_Config.l0 k1 l0_2 (l0_2.length : Int) (wrap64 (x17_1 + 1)) a0_0 l0_1 l0_2 l0_3 l0_4 l0_5 y168) = some (r1, r2) := by first | (rw [hy168]; with_reducible exact H) | (have H2_ := (Option.bind_some _ _).symm.trans H; rw [hy168]; with_reducible exact H2_) | (have H2_ := (Option.bind_some _ _).symm.trans H; with_reducible exact H2_) | with_reducible exact H | (rw [hy168]; exact H) | exact H
         have Ny168 := Aside0.mk hy168
         clear hy168
         have H' := Aside0.mk H
         clear H
         have p164 : 0 ≤ (x17_1 : Int) := of_decide_eq_true (by first | (with_reducible assumption) | assumption)
         have q164 : x17_1 < (l0_2.length : Int) := of_decide_eq_true (by first | (with_reducible assumption) | assumption)
         obtain ⟨ad164, A164_0, c164_0, e164, hx164_0, hl164_0, hi164_0⟩ := at_L25 HR0_2.out x17_1 p164 q164
         cases e164
         replace hx164_0 := (HB.out.cell (World.block_lt_of_cell? w _ hx164_0)).trans hx164_0
         have HR164_0 := Aside0.mk hi164_0
         have HC164_0 := Aside0.mk hl164_0
         clear hi164_0 hl164_0
         replace p164 := eq_true p164
         replace q164 := eq_true q164
         try go_wp2
         replace HO_164000 := Aside0.mk (Kd.S_drew HO_164000.out)
         replace BK161 := Aside0.mk (blk_drew BK161.out)
         replace BK162 := Aside0.mk (blk_drew BK162.out)
         replace BK163 := Aside0.mk (blk_drew BK163.out)
         replace HB := Aside0.mk (below_drew1 HB.out)
         refine start_ (n := 14) (S := fun w' => CE2 w' gb163 (u164000) (.slice none 0 0)) (ds := [13]) #[false, false, false, false, false, false, false, false, false, false, false, false, false, false] (by kernel_rfl) rfl rfl (he2 BK163) (fun hHeld => ?_); refine with_tabW maquettelaw07_Shape_Config.tab6 maquettelaw07_Shape_Config.bits6 (fun HT_ HW_ => ?_)
         generalize wr.drew = w15 at HO_164000 BK161 BK162 BK163 HB hHeld ⊢
         refine pu HT_ 0 (some 24) (mk 14 1) ?_
         refine pu HT_ 2 (some 26) (mk 14 5) ?_
         refine pu HT_ 3 (some 27) (mk 14 13) ?_
         refine pu HT_ 4 (some 28) (mk 14 29) ?_
         refine pu HT_ 5 (some 29) (mk 14 61) ?_
         refine pu HT_ 6 (some 30) (mk 14 125) ?_
         refine pu HT_ 7 (some 31) (mk 14 253) ?_
         refine tk HT_ HW_ 1 (some 25) (mk 14 255) hHeld ?_
         refine on HT_ 8 (some 32) (mk 14 511) fun K hK => ?_
         refine go1 Try.func8 #[.slice A164_0 (rd_L25 l0_2 x17_1).length c164_0] ?_
         with_reducible refine (maquettelaw07_Clauses.calls k1 _ _ (rd_L25 l0_2 x17_1) t165 _ ?side1 ?side2 A13.out).mono ?_
         (case side1 => exact kcb HR164_0)
         (case side2 => exact HC164_0.out)
         rintro e w16 ⟨v166, rfl, ho0, hb⟩
         refine ⟨_, rfl, ?_⟩
         have HO167 := Aside0.mk (Kd.R_lower ho0 (below_size bel))
         replace HO_164000 := Aside0.mk (Kd.S_elder' (kS HO_164000) (Kd.R_base ho0) hb)
         replace BK161 := bkb BK161 hb
         replace BK162 := bkb BK162 hb
         replace BK163 := bkb BK163 hb
         replace HB := bst hb
         (try clear hb)
         (try clear hb2)
         (try clear hk)
         (try clear hi)
         (try clear ho0)
         obtain ⟨Ao17, co17, eo17⟩ := Kd.R_slice HO167.out
         (first | subst eo17 | (injection eo17 with f1_ f2_ f3_; have f4_ := f1_.symm; have f5_ := f3_.symm; clear f1_ f2_ f3_; subst f4_; subst f5_))
         refine hK.out _ _ (he2 BK163) (fun hHeld => ?_)
         clear hK K
         refine nm (some 32) ?_
         refine pu HT_ 9 (some 33) (mk 14 1023) ?_
         refine on HT_ 10 (some 34) (mk 14 2047) fun K hK => ?_
         refine value_ (w1 := ?_) (v := ?_) (by rfl) rfl ?_ ?_
         rotate_left 2
         ·go_simp
          constructor
          ·rfl
          ·rfl
         refine hK.out _ _ ⟨(blk_cell (blk_alloc BK163.out _) 0).trans rfl, (blk_cell (blk_alloc BK163.out _) 1).trans rfl⟩ (fun hHeld => ?_)
         clear hK K
         refine nm (some 34) ?_
         refine on HT_ 11 (some 35) (mk 14 4095) fun K hK => ?_
         refine Kd.S_append_step k57 (w0 := w) w.heap.size (by rfl) (.tmp 25) (.tmp 34) 27 57 (.agg #[(.string ⟨#[]⟩), (.slice none 0 0), (.int .i64 0)]) 48 rfl Try.underlying27 info57 rfl (by decide) (by omega) u164000 x164000_1 (⟨(⟨#[109]⟩ : ByteArray) ++ (Utf8.encode (wrap32 (wrap64 (97 + x17_1)))), t165, 0⟩ : S57) [.string ((⟨#[109]⟩ : ByteArray) ++ (Utf8.encode (wrap32 (wrap64 (97 + x17_1))))), .slice Ao17 t165.length co17, .int .i64 0] (fun _ => True) (fun k_ => some k_ = (.slice Ao17 t165.length co17 : Value).ownBlock) rfl rfl ?aP (fun k_ hk_ => ((Kd.R_mono (ok' := fun k_ => ((fun _ => True)) k_ ∧ some k_ ≠ (u164000 : Value).ownBlock) (Kd.R_apart' (HO167.out) (Kd.S_typed HO_164000.out) (by decide)) (fun k_ hk => ⟨trivial, hk.2⟩))).1 k_ hk_.symm) ?aF ?aO ?aB ?aS ?aL ?_
         (case aP => exact k57_mkM _ _ _ (⟨(⟨#[109]⟩ : ByteArray) ++ (Utf8.encode (wrap32 (wrap64 (97 + x17_1)))), t165, 0⟩ : S57) (Kd.R_mono (Kd.R_tight rfl (Kd.R_mono (ok' := fun k_ => ((fun _ => True)) k_ ∧ some k_ ≠ (u164000 : Value).ownBlock) (Kd.R_apart' (HO167.out) (Kd.S_typed HO_164000.out) (by decide)) (fun k_ hk => ⟨trivial, hk.2⟩))) (fun _ h_ => h_)))
         (case aB => exact bel)
         (case aF => exact (fun _ _ => trivial))
         (case aO => exact (by (with_reducible repeat (first | apply Kd.S_alloc | apply Kd.S_drewN | apply Kd.S_drew)); exact Kd.S_mono HO_164000.out (fun k_ hk => ⟨trivial, fun e_ => hk.2 e_⟩)))
         (case aS => exact (below_size bel))
         (case aL => have := LMc14.out; omega)
         intro v169 w18 ho hb hg hat
         rw [← Ny168.out] at ho
         have HO170 := Aside0.mk ho
         replace BK161 := Aside0.mk (blk_grown (bkq BK161) hg (Kd.S_ne HO_164000.out BK161.out (by decide)))
         replace BK162 := Aside0.mk (blk_grown (bkq BK162) hg (Kd.S_ne HO_164000.out BK162.out (by decide)))
         replace BK163 := Aside0.mk (blk_grown (bkq BK163) hg (Kd.S_ne HO_164000.out BK163.out (by decide)))
         replace HB := Aside0.mk (hb)
         clear HO_164000 HO167
         clear ho hb hg hat
         obtain ⟨Ao19, co19, eo19⟩ := Kd.S_slice HO170.out
         (first | subst eo19 | (injection eo19 with f1_ f2_ f3_; have f4_ := f1_.symm; have f5_ := f3_.symm; clear f1_ f2_ f3_; subst f4_; subst f5_))
         refine hK.out _ _ (he2 BK163) (fun hHeld => ?_)
         clear hK K
         refine nm (some 35) ?_
         refine pu HT_ 12 (some 36) (mk 14 8191) ?_
         refine la HT_ 13 (none) (mk 14 16383) fun K hK => ?_
         have hs20 : w18.cell? ⟨gb163, 0, none⟩ = some (u164000) := (blk_cell BK163.out 0).trans rfl
         have hfs20 := blk_frozen BK163.out 0
         have hns20_0 := NB161_163.out
         have hns20_1 := NB162_163.out
         have hms20_0 := NB163_161.out
         have hms20_1 := NB163_162.out
         refine skip_ (w1 := ?_) (by rfl) rfl ?_ ?_
         rotate_left
         ·go_simp
          rfl
         refine hK.out _ _ ?_
         clear hK K
         refine done_ (done_of HT_.out (by kernel_rfl)) ?_
         try go_wp2
         go_roundg k1
         case measure => have := HK1.out; omega
         case rel => exact ⟨(wrap64 (x17_1 + 1)), (y168), (.slice Ao19 y168.length co19), (by first | rfl | (simp; done) | (simp [*]; done)), H', ⟨by have := HK1.out; omega⟩, ⟨by (with_reducible repeat (first | apply Kd.S_alloc | apply Kd.S_drewN | apply Kd.S_drew)); exact Kd.S_mono (Kd.S_far (p := ⟨gb163, 0, none⟩) (Kd.S_types HO170.out BK163.out (by decide)) (fun _ hk => hk.2) (.slice Ao19 y168.length co19)) (fun _ hk => trivial)⟩, ⟨bkq BK161⟩, ⟨bkq BK162⟩, ⟨bkp BK163⟩, ⟨by repeat (first | (with_reducible first | exact HB.out | apply below_alloc | apply pw_below_drewN | apply below_drew1 | refine below_set ?_ GE161.out | refine below_set ?_ GE162.out | refine below_set ?_ GE163.out) | exact HB.out)⟩⟩
        ·rw [if_neg c14] at H
         exact absurd H (by simp)
       ·rw [if_neg c12] at H
        exact absurd H (by simp)
      ·rw [if_neg c11] at H
       have c11b0 := decide_eq_false c11
       clear c11
       have H' := Aside0.mk H
       clear H
       have p164 : 0 ≤ (x17_1 : Int) := of_decide_eq_true (by first | (with_reducible assumption) | assumption)
       have q164 : x17_1 < (l0_2.length : Int) := of_decide_eq_true (by first | (with_reducible assumption) | assumption)
       obtain ⟨ad164, A164_0, c164_0, e164, hx164_0, hl164_0, hi164_0⟩ := at_L25 HR0_2.out x17_1 p164 q164
       cases e164
       replace hx164_0 := (HB.out.cell (World.block_lt_of_cell? w _ hx164_0)).trans hx164_0
       have HR164_0 := Aside0.mk hi164_0
       have HC164_0 := Aside0.mk hl164_0
       clear hi164_0 hl164_0
       replace p164 := eq_true p164
       replace q164 := eq_true q164
       go_wp2
       go_roundg k1
       case measure => have := HK1.out; omega
       case rel => exact ⟨(wrap64 (x17_1 + 1)), (x164000_1), (u164000), (by first | rfl | (simp; done) | (simp [*]; done)), H', ⟨by have := HK1.out; omega⟩, ⟨by (with_reducible repeat (first | apply Kd.S_alloc | apply Kd.S_drewN | apply Kd.S_drew)); exact HO_164000.out⟩, ⟨bkq BK161⟩, ⟨bkq BK162⟩, ⟨bkq BK163⟩, ⟨by repeat (first | (with_reducible first | exact HB.out | apply below_alloc | apply pw_below_drewN | apply below_drew1 | refine below_set ?_ GE161.out | refine below_set ?_ GE162.out | refine below_set ?_ GE163.out) | exact HB.out)⟩⟩
     ·rw [if_neg c10] at H
      exact absurd H (by simp)
    ·rw [if_neg c9] at H
     exact absurd H (by simp)
   ·rw [if_neg c8] at H
    have c8b0 := decide_eq_false c8
    clear c8
    have H' := Aside0.mk H
    clear H
    have hnb21 := NB161_162.out
    have hnc21 := NB162_161.out
    have hnb22 := NB161_163.out
    have hnc22 := NB163_161.out
    obtain ⟨hcz23_0, hcz23_1, hcz23_2, hcz23_3, hcz23_4, hcz23_5, hfz23_0, hfz23_1, hfz23_2, hfz23_3, hfz23_4, hfz23_5⟩ := bc6 BK161
    go_wp2
    go_loopg [7] k1 (fun kq v7 w' => ∃ (x7_2 : Int) (x164001_2 : List (S53)) (u164001 : Value), v7 = .int .i64 x7_2 ∧ Aside0 (maquettelaw07_Shape_Config.l1 kq (wrap64 (Int.tmod a0_0 8)) x7_2 a0_0 l0_1 l0_2 l0_3 l0_4 l0_5 x164000_1 x164001_2 = some (r1, r2)) ∧ Aside0 (kq ≤ k1) ∧ Aside0 (Kd.S k57 57 w' w.heap.size (fun _ => True) u164000 x164000_1) ∧ Aside0 (Kd.S k53 53 w' w.heap.size (fun _ => True) u164001 x164001_2) ∧ Aside0 (w'.heap[gb161]? = some (.cells #[.int .u8 a0_0, (.slice A0_1 l0_1.length c0_1), (.slice A0_2 l0_2.length c0_2), (.slice A0_3 l0_3.length c0_3), (.slice A0_4 l0_4.length c0_4), (.slice A0_5 l0_5.length c0_5)] 25 (0, 0))) ∧ Aside0 (w'.heap[gb162]? = some (.cells #[(.slice none 0 0), (.slice none 0 0)] 30 (0, 0))) ∧ Aside0 (w'.heap[gb163]? = some (.cells #[u164000, u164001] 30 (0, 0))) ∧ Aside0 (Below w.heap.size w w'))
    case atStart => exact ⟨(0), (([] : List (S53))), (.slice none 0 0), (by first | rfl | (simp; done) | (simp [*]; done)), H', ⟨Nat.le_refl _⟩, ⟨by (with_reducible repeat (first | apply Kd.S_alloc | apply Kd.S_drewN | apply Kd.S_drew)); exact HO_164000.out⟩, ⟨by first | exact Kd.S_nil _ _ _ _ _ | exact Kd.N_nil _ _ _ _ _ | exact Kd.V_nil _ _ _ _ _ | exact Kd.Q_nil _ _ _ _ _ | exact Kd.R_nil _ _ _ _ _⟩, ⟨bkq BK161⟩, ⟨bkq BK162⟩, ⟨bkq BK163⟩, ⟨by repeat (first | (with_reducible first | exact HB.out | apply below_alloc | apply pw_below_drewN | apply below_drew1 | refine below_set ?_ GE161.out | refine below_set ?_ GE162.out | refine below_set ?_ GE163.out) | exact HB.out)⟩⟩
    case round =>
     clear H'
     try clear c1
     try clear p1
     try clear q1
     try clear hx1
     try clear c2
     try clear p2 p2
     try clear p3
     try clear c5
     try clear c6
     try clear p6
     try clear c8
     try clear c8b0
     try clear c9
     try clear c9b0
     try clear c10
     try clear c10b0
     try clear c11
     try clear c11b0
     try clear c12
     try clear c12b0
     try clear c12b1
     try clear c12b2
     try clear c14
     try clear c16
     try clear p16
     try clear q16
     try clear hx16
     try clear c21
     try clear c22
     try clear hcz23_0 hcz23_1 hcz23_2 hcz23_3 hcz23_4 hcz23_5 hfz23_0 hfz23_1 hfz23_2 hfz23_3 hfz23_4 hfz23_5
     try clear hcz7_0 hcz7_1 hcz7_2 hcz7_3 hcz7_4 hcz7_5 hfz7_0 hfz7_1 hfz7_2 hfz7_3 hfz7_4 hfz7_5
     try clear hx164_0
     try clear p164
     try clear q164
     obtain ⟨x7_2, x164001_2, u164001, rfl, HA, HK2, HO_164000, HO_164001, BK161, BK162, BK163, HB⟩ := hrel
     cases gk with
     | zero => exact absurd HA.out (by simp [maquettelaw07_Shape_Config.l1])
     | succ k2 =>
      have H := HA.out
      clear HA
      simp only [maquettelaw07_Shape_Config.l1] at H
      by_cases c24 : x7_2 < (wrap64 (Int.tmod a0_0 8))
      ·rw [if_pos c24] at H
       have c24b0 := decide_eq_true c24
       clear c24
       replace H := Option.bind_eq_some_iff.mp H
       obtain ⟨t171, A250, H⟩ := H
       replace H : ((maquettelaw07_number.f l0_4 x7_2).bind fun t173 => (if x7_2 = 0 then (maquettelaw07_Shape_Config.j2 k2 (wrap64 (Int.tmod a0_0 8)) x7_2 t173 true a0_0 l0_1 l0_2 l0_3 l0_4 l0_5 x164000_1 x164001_2 t171 0) else (maquettelaw07_Shape_Config.j2 k2 (wrap64 (Int.tmod a0_0 8)) x7_2 t173 ((Int.tmod t173 4) == 0) a0_0 l0_1 l0_2 l0_3 l0_4 l0_5 x164000_1 x164001_2 t171 0))) = some (r1, r2) := H
       have A25 := Aside0.mk A250
       clear A250
       replace H := Option.bind_eq_some_iff.mp H
       obtain ⟨t173, A260, H⟩ := H
       replace H : (if x7_2 = 0 then (maquettelaw07_Shape_Config.j2 k2 (wrap64 (Int.tmod a0_0 8)) x7_2 t173 true a0_0 l0_1 l0_2 l0_3 l0_4 l0_5 x164000_1 x164001_2 t171 0) else (maquettelaw07_Shape_Config.j2 k2 (wrap64 (Int.tmod a0_0 8)) x7_2 t173 ((Int.tmod t173 4) == 0) a0_0 l0_1 l0_2 l0_3 l0_4 l0_5 x164000_1 x164001_2 t171 0)) = some (r1, r2) := H
       have A26 := Aside0.mk A260
       clear A260
       have HC27 := Aside0.mk H
       clear H
       go_upto_region 14 with (first | ((with_reducible refine gate_dst (N := 48) rfl ?_); refine gl (some 48) Try.func9 #[.int .i64 x7_2] ?_; (with_reducible refine (maquettelaw07_Name.calls x7_2 t171 _ A25.out).mono ?_); rintro e w' ⟨rfl, ⟨nd, rfl⟩⟩; refine ⟨_, rfl, ?_⟩; (try (rw [drewN_self wr]; generalize hq_ : World.drewN wr _ = wr; replace HO_164000 := dS hq_ HO_164000; replace HO_164001 := dS hq_ HO_164001; replace BK161 := bkd hq_ BK161; replace BK162 := bkd hq_ BK162; replace BK163 := bkd hq_ BK163; replace HB := bld (w := w) hq_; clear hq_))) | ((with_reducible refine gate_dst (N := 8) rfl ?_); (try (refine gate_guard (by rfl) ?_; dsimp only)); refine bx 8 (cs := #[.string (⟨#[]⟩ : ByteArray), .slice none 0 0, .slice none 0 0, .slice none 0 0, .int .i64 0]) (t := 53) (h := ?_); intro gb172 hg w28 hbox hb; have BK172 := Aside0.mk hbox; have GW172 : Aside0 (w.heap.size ≤ gb172) := bge hg; have GE172 : Aside0 (w.heap.size ≤ gb172) := bge hg; have NB161_172 := bne BK161 hg; have NB172_161 := bnf BK161 hg; have NB162_172 := bne BK162 hg; have NB172_162 := bnf BK162 hg; have NB163_172 := bne BK163 hg; have NB172_163 := bnf BK163 hg; replace HO_164000 := Aside0.mk (Kd.S_below (kS HO_164000) hb); replace HO_164001 := Aside0.mk (Kd.S_below (Kd.S_elderB (kS HO_164001) gb172 (Nat.le_of_eq hg.symm)) hb); replace BK161 := bkb BK161 hb; replace BK162 := bkb BK162 hb; replace BK163 := bkb BK163 hb; replace HB := bst hb; clear hb hbox hg; have hnb29 := NB172_161.out; have hnc29 := NB161_172.out; have hnb30 := NB172_162.out; have hnc30 := NB162_172.out; have hnb31 := NB172_163.out; have hnc31 := NB163_172.out; obtain ⟨hcz32_0, hcz32_1, hcz32_2, hcz32_3, hcz32_4, hfz32_0, hfz32_1, hfz32_2, hfz32_3, hfz32_4⟩ := bc5 BK172; have hnb33 := NB161_162.out; have hnc33 := NB162_161.out; have hnb34 := NB161_163.out; have hnc34 := NB163_161.out; obtain ⟨hcz35_0, hcz35_1, hcz35_2, hcz35_3, hcz35_4, hcz35_5, hfz35_0, hfz35_1, hfz35_2, hfz35_3, hfz35_4, hfz35_5⟩ := bc6 BK161) | ((with_reducible refine gate_dst (N := 53) rfl ?_); refine gl (some 53) Try.func10 #[.slice A0_4 l0_4.length c0_4, .int .i64 x7_2] ?_; (with_reducible refine (maquettelaw07_number.calls _ _ l0_4 x7_2 t173 _ ?side1 ?side2 A26.out).mono ?_); (case side1 => exact Kd.C_below HR0_4.out bel); (case side2 => exact HC0_4.out); rintro e w' ⟨rfl, ⟨nd, rfl⟩⟩; refine ⟨_, rfl, ?_⟩))
       (try simp only [Act.put, List.setIfInBounds_toArray, List.set_cons_zero, List.set_cons_succ])
       go_cut [60] (fun v60 wc => ∃ (kq : Nat) (x60_26 : Bool), v60 = .bool x60_26 ∧ Aside0 (maquettelaw07_Shape_Config.j2 kq (wrap64 (Int.tmod a0_0 8)) x7_2 t173 x60_26 a0_0 l0_1 l0_2 l0_3 l0_4 l0_5 x164000_1 x164001_2 t171 0 = some (r1, r2)) ∧ Aside0 (kq ≤ k2) ∧ Aside0 (Kd.S k57 57 wc w.heap.size (fun _ => True) u164000 x164000_1) ∧ Aside0 (Kd.S k53 53 wc w.heap.size (fun k_ => k_ ≠ gb172) u164001 x164001_2) ∧ Aside0 (wc.heap[gb161]? = some (.cells #[.int .u8 a0_0, (.slice A0_1 l0_1.length c0_1), (.slice A0_2 l0_2.length c0_2), (.slice A0_3 l0_3.length c0_3), (.slice A0_4 l0_4.length c0_4), (.slice A0_5 l0_5.length c0_5)] 25 (0, 0))) ∧ Aside0 (wc.heap[gb162]? = some (.cells #[(.slice none 0 0), (.slice none 0 0)] 30 (0, 0))) ∧ Aside0 (wc.heap[gb163]? = some (.cells #[u164000, u164001] 30 (0, 0))) ∧ Aside0 (wc.heap[gb172]? = some (.cells #[.string t171, (.slice none 0 0), (.slice none 0 0), (.slice none 0 0), .int .i64 0] 53 (0, 0))) ∧ Aside0 (Below w.heap.size w wc))
       case first =>
        have H := HC27.out
        clear HC27
        by_cases c36 : x7_2 = 0
        ·rw [if_pos c36] at H
         have c36b0 : (x7_2 == 0) = true := beq_iff_eq.mpr c36
         have c36b1 : (x7_2 != 0) = false := bne_eq_false_iff_eq.mpr c36
         clear c36
         (first | rw [c36b0] | (simp only [i64_w, i32_w]; rw [c36b0]) | skip)
         have H' := Aside0.mk H
         clear H
         go_wp2
         go_meet
         case rel => exact ⟨_, (true), (by first | rfl | (simp; done) | (simp [*]; done)), H', ⟨by have := HK1.out; have := HK2.out; first | omega | exact Nat.le_refl _⟩, ⟨by (with_reducible repeat (first | apply Kd.S_alloc | apply Kd.S_drewN | apply Kd.S_drew)); exact Kd.S_mono (Kd.S_far (p := ⟨gb172, 4, none⟩) (Kd.S_far (p := ⟨gb172, 3, none⟩) (Kd.S_far (p := ⟨gb172, 2, none⟩) (Kd.S_far (p := ⟨gb172, 1, none⟩) (Kd.S_far (p := ⟨gb172, 0, none⟩) (Kd.S_types HO_164000.out BK172.out (by decide)) (fun _ hk => hk.2) (.string t171)) (fun _ hk => hk.2) (.slice none 0 0)) (fun _ hk => hk.2) (.slice none 0 0)) (fun _ hk => hk.2) (.slice none 0 0)) (fun _ hk => hk.2) (.int .i64 0)) (fun _ hk => trivial)⟩, ⟨by (with_reducible repeat (first | apply Kd.S_alloc | apply Kd.S_drewN | apply Kd.S_drew)); exact Kd.S_mono (Kd.S_far (p := ⟨gb172, 4, none⟩) (Kd.S_far (p := ⟨gb172, 3, none⟩) (Kd.S_far (p := ⟨gb172, 2, none⟩) (Kd.S_far (p := ⟨gb172, 1, none⟩) (Kd.S_far (p := ⟨gb172, 0, none⟩) (Kd.S_mono HO_164001.out (fun k_ hk => (⟨hk, hk.2⟩ : _ ∧ k_ ≠ gb172))) (fun _ hk => hk.2) (.string t171)) (fun _ hk => hk.2) (.slice none 0 0)) (fun _ hk => hk.2) (.slice none 0 0)) (fun _ hk => hk.2) (.slice none 0 0)) (fun _ hk => hk.2) (.int .i64 0)) (fun _ hk => hk.1.2)⟩, ⟨bkq BK161⟩, ⟨bkq BK162⟩, ⟨bkq BK163⟩, ⟨bkp BK172⟩, ⟨by repeat (first | (with_reducible first | exact HB.out | apply below_alloc | apply pw_below_drewN | apply below_drew1 | refine below_set ?_ GE161.out | refine below_set ?_ GE162.out | refine below_set ?_ GE163.out | refine below_set ?_ GE172.out) | exact HB.out)⟩⟩
        ·rw [if_neg c36] at H
         have c36b0 : (x7_2 == 0) = false := beq_eq_false_iff_ne.mpr c36
         have c36b1 : (x7_2 != 0) = true := bne_iff_ne.mpr c36
         (first | rw [c36b0] | (simp only [i64_w, i32_w]; rw [c36b0]) | skip)
         have H' := Aside0.mk H
         clear H
         go_wp2
         go_meet
         case rel => exact ⟨_, (((Int.tmod t173 4) == 0)), (by first | rfl | (simp; done) | (simp [*]; done)), H', ⟨by have := HK1.out; have := HK2.out; first | omega | exact Nat.le_refl _⟩, ⟨by (with_reducible repeat (first | apply Kd.S_alloc | apply Kd.S_drewN | apply Kd.S_drew)); exact Kd.S_mono (Kd.S_far (p := ⟨gb172, 4, none⟩) (Kd.S_far (p := ⟨gb172, 3, none⟩) (Kd.S_far (p := ⟨gb172, 2, none⟩) (Kd.S_far (p := ⟨gb172, 1, none⟩) (Kd.S_far (p := ⟨gb172, 0, none⟩) (Kd.S_types HO_164000.out BK172.out (by decide)) (fun _ hk => hk.2) (.string t171)) (fun _ hk => hk.2) (.slice none 0 0)) (fun _ hk => hk.2) (.slice none 0 0)) (fun _ hk => hk.2) (.slice none 0 0)) (fun _ hk => hk.2) (.int .i64 0)) (fun _ hk => trivial)⟩, ⟨by (with_reducible repeat (first | apply Kd.S_alloc | apply Kd.S_drewN | apply Kd.S_drew)); exact Kd.S_mono (Kd.S_far (p := ⟨gb172, 4, none⟩) (Kd.S_far (p := ⟨gb172, 3, none⟩) (Kd.S_far (p := ⟨gb172, 2, none⟩) (Kd.S_far (p := ⟨gb172, 1, none⟩) (Kd.S_far (p := ⟨gb172, 0, none⟩) (Kd.S_mono HO_164001.out (fun k_ hk => (⟨hk, hk.2⟩ : _ ∧ k_ ≠ gb172))) (fun _ hk => hk.2) (.string t171)) (fun _ hk => hk.2) (.slice none 0 0)) (fun _ hk => hk.2) (.slice none 0 0)) (fun _ hk => hk.2) (.slice none 0 0)) (fun _ hk => hk.2) (.int .i64 0)) (fun _ hk => hk.1.2)⟩, ⟨bkq BK161⟩, ⟨bkq BK162⟩, ⟨bkq BK163⟩, ⟨bkp BK172⟩, ⟨by repeat (first | (with_reducible first | exact HB.out | apply below_alloc | apply pw_below_drewN | apply below_drew1 | refine below_set ?_ GE161.out | refine below_set ?_ GE162.out | refine below_set ?_ GE163.out | refine below_set ?_ GE172.out) | exact HB.out)⟩⟩
       case rest =>
        clear HC27
        try clear c1
        try clear p1 p1
        try clear q1 q1
        try clear hx1
        try clear c2
        try clear p2 p2
        try clear c3
        try clear p3 p3
        try clear c5
        try clear c6
        try clear p6 p6
        try clear c8
        try clear c8b0
        try clear c9
        try clear c9b0
        try clear c10
        try clear c10b0
        try clear c11
        try clear c11b0
        try clear c12
        try clear c12b0
        try clear c12b1
        try clear c12b2
        try clear c14
        try clear c16
        try clear p16 p16
        try clear q16 q16
        try clear hx16
        try clear c21
        try clear c22
        try clear c24
        try clear c24b0
        try clear c29
        try clear c30
        try clear c31
        try clear p32
        try clear c33
        try clear c34
        try clear c36
        try clear c36b0
        try clear c36b1
        try clear hcz23_0 hcz23_1 hcz23_2 hcz23_3 hcz23_4 hcz23_5 hfz23_0 hfz23_1 hfz23_2 hfz23_3 hfz23_4 hfz23_5
        try clear hcz32_0 hcz32_1 hcz32_2 hcz32_3 hcz32_4 hfz32_0 hfz32_1 hfz32_2 hfz32_3 hfz32_4
        try clear hcz35_0 hcz35_1 hcz35_2 hcz35_3 hcz35_4 hcz35_5 hfz35_0 hfz35_1 hfz35_2 hfz35_3 hfz35_4 hfz35_5
        try clear hcz7_0 hcz7_1 hcz7_2 hcz7_3 hcz7_4 hcz7_5 hfz7_0 hfz7_1 hfz7_2 hfz7_3 hfz7_4 hfz7_5
        try clear hx164_0
        try clear p164
        try clear q164
        obtain ⟨kq, x60_26, rfl, HA, HJ26, HO_164000, HO_164001, BK161, BK162, BK163, BK172, HB⟩ := hcut
        cases kq with
        | zero => exact absurd HA.out (by simp [maquettelaw07_Shape_Config.j2])
        | succ kj26 =>
         have H := HA.out
         clear HA
         simp only [maquettelaw07_Shape_Config.j2] at H
         have HC37 := Aside0.mk H
         clear H
         go_upto_if 60 with (fail)
         go_cut [] (fun wc => ∃ (kq : Nat) (x173001_36 : List (S36)) (u173001 : Value), Aside0 (maquettelaw07_Shape_Config.j3 kq (wrap64 (Int.tmod a0_0 8)) x7_2 a0_0 l0_1 l0_2 l0_3 l0_4 l0_5 x164000_1 x164001_2 t171 x173001_36 0 = some (r1, r2)) ∧ Aside0 (kq ≤ kj26) ∧ Aside0 (Kd.S k57 57 wc w.heap.size (fun _ => True) u164000 x164000_1) ∧ Aside0 (Kd.S k53 53 wc w.heap.size (fun k_ => some k_ ≠ (u173001 : Value).ownBlock ∧ k_ ≠ gb172) u164001 x164001_2) ∧ Aside0 (Kd.R k36 36 wc w.heap.size (fun _ => True) u173001 x173001_36) ∧ Aside0 (wc.heap[gb161]? = some (.cells #[.int .u8 a0_0, (.slice A0_1 l0_1.length c0_1), (.slice A0_2 l0_2.length c0_2), (.slice A0_3 l0_3.length c0_3), (.slice A0_4 l0_4.length c0_4), (.slice A0_5 l0_5.length c0_5)] 25 (0, 0))) ∧ Aside0 (wc.heap[gb162]? = some (.cells #[(.slice none 0 0), (.slice none 0 0)] 30 (0, 0))) ∧ Aside0 (wc.heap[gb163]? = some (.cells #[u164000, u164001] 30 (0, 0))) ∧ Aside0 (wc.heap[gb172]? = some (.cells #[.string t171, u173001, (.slice none 0 0), (.slice none 0 0), .int .i64 0] 53 (0, 0))) ∧ Aside0 (Below w.heap.size w wc))
         case first =>
          have H := HC37.out
          clear HC37
          by_cases c38 : x60_26 = true
          ·subst c38
           have H1 : ((maquettelaw05_Make.f kj26 ((t173) % 256)).bind fun bt174 => (if ([] : List (S36)).length < 8796093022208 then (maquettelaw07_Shape_Config.j3 kj26 (wrap64 (Int.tmod a0_0 8)) x7_2 a0_0 l0_1 l0_2 l0_3 l0_4 l0_5 x164000_1 x164001_2 t171 (([] : List (S36)) ++ [(⟨bt174.1, bt174.2⟩ : S36)]) 0) else (none))) = some (r1, r2) := by rw [if_pos rfl] at H; exact H
           clear H
           have H := H1
           clear H1
           replace H := Option.bind_eq_some_iff.mp H
           obtain ⟨⟨t174, t175⟩, A390, H⟩ := H
           replace H : (if ([] : List (S36)).length < 8796093022208 then (maquettelaw07_Shape_Config.j3 kj26 (wrap64 (Int.tmod a0_0 8)) x7_2 a0_0 l0_1 l0_2 l0_3 l0_4 l0_5 x164000_1 x164001_2 t171 (([] : List (S36)) ++ [(⟨t174, t175⟩ : S36)]) 0) else (none)) = some (r1, r2) := H
           have A39 := Aside0.mk A390
           clear A390
           by_cases c40 : ([] : List (S36)).length < 8796093022208
           ·rw [if_pos c40] at H
            have LMc40 := Aside0.mk c40
            clear c40
            obtain ⟨y176, hy176⟩ : ∃ y_ : List (S36), y_ = (([] : List (S36)) ++ [(⟨t174, t175⟩ : S36)]) := ⟨_, rfl⟩
            replace H : (maquettelaw07_Shape_Config.j3 kj26 (wrap64 (Int.tmod a0_0 8)) x7_2 a0_0 l0_1 l0_2 l0_3 l0_4 l0_5 x164000_1 x164001_2 t171 y176 0) = some (r1, r2) := by first | (rw [hy176]; with_reducible exact H) | (have H2_ := (Option.bind_some _ _).symm.trans H; rw [hy176]; with_reducible exact H2_) | (have H2_ := (Option.bind_some _ _).symm.trans H; with_reducible exact H2_) | with_reducible exact H | (rw [hy176]; exact H) | exact H
            have Ny176 := Aside0.mk hy176
            clear hy176
            have H' := Aside0.mk H
            clear H
            try go_wp2
            replace HO_164000 := Aside0.mk (Kd.S_drew HO_164000.out)
            replace HO_164001 := Aside0.mk (Kd.S_drew HO_164001.out)
            replace BK161 := Aside0.mk (blk_drew BK161.out)
            replace BK162 := Aside0.mk (blk_drew BK162.out)
            replace BK163 := Aside0.mk (blk_drew BK163.out)
            replace BK172 := Aside0.mk (blk_drew BK172.out)
            replace HB := Aside0.mk (below_drew1 HB.out)
            refine start_ (n := 9) (S := fun w' => CE5 w' gb172 (.string t171) (.slice none 0 0) (.slice none 0 0) (.slice none 0 0) (.int .i64 0)) (ds := [8]) #[false, false, false, false, false, false, false, false, false] (by kernel_rfl) rfl rfl (he5 BK172) (fun hHeld => ?_); refine with_tabW maquettelaw07_Shape_Config.tab15 maquettelaw07_Shape_Config.bits15 (fun HT_ HW_ => ?_)
            generalize wc.drew = w41 at HO_164000 HO_164001 BK161 BK162 BK163 BK172 HB hHeld ⊢
            refine pu HT_ 0 (some 61) (mk 9 1) ?_
            refine pu HT_ 2 (some 63) (mk 9 5) ?_
            refine pu HT_ 3 (some 64) (mk 9 13) ?_
            refine tk HT_ HW_ 1 (some 62) (mk 9 15) hHeld ?_
            refine on HT_ 4 (some 65) (mk 9 31) fun K hK => ?_
            refine go1 Try.func11 #[.int .u8 ((t173) % 256)] ?_
            with_reducible refine (maquettelaw05_Make.calls kj26 ((t173) % 256) t174 t175 _ A39.out).mono ?_
            rintro e w42 ⟨rfl, hb⟩
            refine ⟨_, rfl, ?_⟩
            replace HO_164000 := Aside0.mk (Kd.S_below (kS HO_164000) hb)
            replace HO_164001 := Aside0.mk (Kd.S_below (kS HO_164001) hb)
            replace BK161 := bkb BK161 hb
            replace BK162 := bkb BK162 hb
            replace BK163 := bkb BK163 hb
            replace BK172 := bkb BK172 hb
            replace HB := bst hb
            (try clear hb)
            (try clear hb2)
            (try clear hk)
            (try clear hi)
            refine hK.out _ _ (he5 BK172) (fun hHeld => ?_)
            clear hK K
            refine nm (some 65) ?_
            refine on HT_ 5 (some 66) (mk 9 63) fun K hK => ?_
            refine value_ (w1 := ?_) (v := ?_) (by rfl) rfl ?_ ?_
            rotate_left 2
            ·go_simp
             constructor
             ·rfl
             ·rfl
            refine hK.out _ _ ⟨(blk_cell (blk_alloc BK172.out _) 0).trans rfl, (blk_cell (blk_alloc BK172.out _) 1).trans rfl, (blk_cell (blk_alloc BK172.out _) 2).trans rfl, (blk_cell (blk_alloc BK172.out _) 3).trans rfl, (blk_cell (blk_alloc BK172.out _) 4).trans rfl⟩ (fun hHeld => ?_)
            clear hK K
            refine nm (some 66) ?_
            refine on HT_ 6 (some 67) (mk 9 127) fun K hK => ?_
            refine Kd.R_append_step k36 (w0 := w) w.heap.size (by rfl) (.tmp 62) (.tmp 66) 32 36 (.agg #[(.int .u32 0), (.int .i64 0)]) 16 rfl Try.underlying32 info36 rfl (by decide) (by omega) (.slice none 0 0) ([] : List (S36)) (⟨t174, t175⟩ : S36) [.int .u32 t174, .int .i64 t175] (fun _ => True) (fun _ => False) rfl rfl ?aP (fun _ hk => hk.elim) ?aF ?aO ?aB ?aS ?aL ?_
            (case aP => exact k36_mkM _ _ _ (⟨t174, t175⟩ : S36))
            (case aB => exact bel)
            (case aF => exact (fun _ _ => trivial))
            (case aO => exact ((Kd.R_nil _ _ _ _ (fun _ => True))))
            (case aS => exact (below_size bel))
            (case aL => have := LMc40.out; omega)
            intro v177 w43 ho hb hg hat
            rw [← Ny176.out] at ho
            have HO178 := Aside0.mk ho
            replace HO_164000 := Aside0.mk (Kd.S_grown (kS HO_164000) hg (fun _ _ => by simp [Value.ownBlock]))
            replace HO_164001 := Aside0.mk (Kd.S_after (Kd.S_apart_nil (kS HO_164001)) hg hat)
            replace BK161 := Aside0.mk (blk_grown (bkq BK161) hg (by simp [Value.ownBlock]))
            replace BK162 := Aside0.mk (blk_grown (bkq BK162) hg (by simp [Value.ownBlock]))
            replace BK163 := Aside0.mk (blk_grown (bkq BK163) hg (by simp [Value.ownBlock]))
            replace BK172 := Aside0.mk (blk_grown (bkq BK172) hg (by simp [Value.ownBlock]))
            replace HB := Aside0.mk (hb)
            clear ho hb hg hat
            obtain ⟨Ao44, co44, eo44⟩ := Kd.R_slice HO178.out
            (first | subst eo44 | (injection eo44 with f1_ f2_ f3_; have f4_ := f1_.symm; have f5_ := f3_.symm; clear f1_ f2_ f3_; subst f4_; subst f5_))
            refine hK.out _ _ (he5 BK172) (fun hHeld => ?_)
            clear hK K
            refine nm (some 67) ?_
            refine pu HT_ 7 (some 68) (mk 9 255) ?_
            refine la HT_ 8 (none) (mk 9 511) fun K hK => ?_
            have hs45 : w43.cell? ⟨gb172, 1, none⟩ = some (.slice none 0 0) := (blk_cell BK172.out 1).trans rfl
            have hfs45 := blk_frozen BK172.out 1
            have hns45_0 := NB161_172.out
            have hns45_1 := NB162_172.out
            have hns45_2 := NB163_172.out
            have hms45_0 := NB172_161.out
            have hms45_1 := NB172_162.out
            have hms45_2 := NB172_163.out
            refine skip_ (w1 := ?_) (by rfl) rfl ?_ ?_
            rotate_left
            ·go_simp
             rfl
            refine hK.out _ _ ?_
            clear hK K
            refine done_ (done_of HT_.out (by kernel_rfl)) ?_
            try go_wp2
            go_meet
            case rel => exact ⟨_, (y176), (.slice Ao44 y176.length co44), H', ⟨by have := HK1.out; have := HK2.out; have := HJ26.out; first | omega | exact Nat.le_refl _⟩, ⟨by (with_reducible repeat (first | apply Kd.S_alloc | apply Kd.S_drewN | apply Kd.S_drew)); exact Kd.S_mono (Kd.S_far (p := ⟨gb172, 1, none⟩) (Kd.S_types HO_164000.out BK172.out (by decide)) (fun _ hk => hk.2) (.slice Ao44 y176.length co44)) (fun _ hk => trivial)⟩, ⟨by (with_reducible repeat (first | apply Kd.S_alloc | apply Kd.S_drewN | apply Kd.S_drew)); exact Kd.S_mono (Kd.S_far (p := ⟨gb172, 1, none⟩) (Kd.S_mono HO_164001.out (fun k_ hk => (⟨hk, hk.1⟩ : _ ∧ k_ ≠ gb172))) (fun _ hk => hk.2) (.slice Ao44 y176.length co44)) (fun _ hk => ⟨hk.1.2, hk.1.1⟩)⟩, ⟨by (with_reducible repeat (first | apply Kd.R_alloc | apply Kd.R_drewN | apply Kd.R_drew)); exact Kd.R_mono (Kd.R_far (p := ⟨gb172, 1, none⟩) (Kd.R_types HO178.out BK172.out (by decide)) (fun _ hk => hk.2) (.slice Ao44 y176.length co44)) (fun _ hk => trivial)⟩, ⟨bkq BK161⟩, ⟨bkq BK162⟩, ⟨bkq BK163⟩, ⟨bkp BK172⟩, ⟨by repeat (first | (with_reducible first | exact HB.out | apply below_alloc | apply pw_below_drewN | apply below_drew1 | refine below_set ?_ GE161.out | refine below_set ?_ GE162.out | refine below_set ?_ GE163.out | refine below_set ?_ GE172.out) | exact HB.out)⟩⟩
           ·rw [if_neg c40] at H
            exact absurd H (by simp)
          ·replace c38 := Bool.eq_false_iff.mpr c38
           subst c38
           have H1 : (maquettelaw07_Shape_Config.j3 kj26 (wrap64 (Int.tmod a0_0 8)) x7_2 a0_0 l0_1 l0_2 l0_3 l0_4 l0_5 x164000_1 x164001_2 t171 ([] : List (S36)) 0) = some (r1, r2) := by rw [if_neg (show ¬ (false = true) by decide)] at H; exact H
           clear H
           have H := H1
           clear H1
           have H' := Aside0.mk H
           clear H
           go_wp2
           go_meet
           case rel => exact ⟨_, (([] : List (S36))), (.slice none 0 0), H', ⟨by have := HK1.out; have := HK2.out; have := HJ26.out; first | omega | exact Nat.le_refl _⟩, ⟨by (with_reducible repeat (first | apply Kd.S_alloc | apply Kd.S_drewN | apply Kd.S_drew)); exact HO_164000.out⟩, ⟨by (with_reducible repeat (first | apply Kd.S_alloc | apply Kd.S_drewN | apply Kd.S_drew)); exact Kd.S_mono HO_164001.out (fun _ hk => ⟨(by simp [Value.ownBlock]), hk⟩)⟩, ⟨by first | exact Kd.R_nil _ _ _ _ _ | exact Kd.N_nil _ _ _ _ _ | exact Kd.V_nil _ _ _ _ _ | exact Kd.Q_nil _ _ _ _ _ | exact Kd.S_nil _ _ _ _ _⟩, ⟨bkq BK161⟩, ⟨bkq BK162⟩, ⟨bkq BK163⟩, ⟨bkq BK172⟩, ⟨by repeat (first | (with_reducible first | exact HB.out | apply below_alloc | apply pw_below_drewN | apply below_drew1 | refine below_set ?_ GE161.out | refine below_set ?_ GE162.out | refine below_set ?_ GE163.out | refine below_set ?_ GE172.out) | exact HB.out)⟩⟩
         case rest =>
          clear HC37
          try clear c1
          try clear p1 p1
          try clear q1 q1
          try clear hx1
          try clear c2
          try clear p2 p2
          try clear c3
          try clear p3 p3
          try clear c4
          try clear c5
          try clear c6
          try clear p6 p6
          try clear c8
          try clear c8b0
          try clear c9
          try clear c9b0
          try clear c10
          try clear c10b0
          try clear c11
          try clear c11b0
          try clear c12
          try clear c12b0
          try clear c12b1
          try clear c12b2
          try clear c14
          try clear c16
          try clear p16 p16
          try clear q16 q16
          try clear hx16
          try clear c21
          try clear c22
          try clear c24
          try clear c24b0
          try clear c29
          try clear c30
          try clear c31
          try clear p32 p32
          try clear c33
          try clear c34
          try clear c36
          try clear c36b0
          try clear c36b1
          try clear c38
          try clear c40
          try clear hcz23_0 hcz23_1 hcz23_2 hcz23_3 hcz23_4 hcz23_5 hfz23_0 hfz23_1 hfz23_2 hfz23_3 hfz23_4 hfz23_5
          try clear hcz32_0 hcz32_1 hcz32_2 hcz32_3 hcz32_4 hfz32_0 hfz32_1 hfz32_2 hfz32_3 hfz32_4
          try clear hcz35_0 hcz35_1 hcz35_2 hcz35_3 hcz35_4 hcz35_5 hfz35_0 hfz35_1 hfz35_2 hfz35_3 hfz35_4 hfz35_5
          try clear hcz7_0 hcz7_1 hcz7_2 hcz7_3 hcz7_4 hcz7_5 hfz7_0 hfz7_1 hfz7_2 hfz7_3 hfz7_4 hfz7_5
          try clear hx164_0
          try clear p164
          try clear q164
          obtain ⟨kq, x173001_36, u173001, HA, HJ36, HO_164000, HO_164001, HO_173001, BK161, BK162, BK163, BK172, HB⟩ := hcut
          cases kq with
          | zero => exact absurd HA.out (by simp [maquettelaw07_Shape_Config.j3])
          | succ kj36 =>
           have H := HA.out
           clear HA
           simp only [maquettelaw07_Shape_Config.j3] at H
           have H' := Aside0.mk H
           clear H
           go_wp2
           go_loopg [10] kj36 (fun kq v10 w' => ∃ (x10_5 : Int) (x173002_5 : List (S49)) (u173002 : Value), v10 = .int .i64 x10_5 ∧ Aside0 (maquettelaw07_Shape_Config.l2 kq (wrap64 (Int.tmod a0_0 8)) x7_2 x10_5 a0_0 l0_1 l0_2 l0_3 l0_4 l0_5 x164000_1 x164001_2 t171 x173001_36 x173002_5 0 = some (r1, r2)) ∧ Aside0 (kq ≤ kj36) ∧ Aside0 (Kd.S k57 57 w' w.heap.size (fun _ => True) u164000 x164000_1) ∧ Aside0 (Kd.S k53 53 w' w.heap.size (fun k_ => some k_ ≠ (u173001 : Value).ownBlock ∧ some k_ ≠ (u173002 : Value).ownBlock ∧ k_ ≠ gb172) u164001 x164001_2) ∧ Aside0 (Kd.R k36 36 w' w.heap.size (fun _ => True) u173001 x173001_36) ∧ Aside0 (Kd.R k49 49 w' w.heap.size (fun _ => True) u173002 x173002_5) ∧ Aside0 (w'.heap[gb161]? = some (.cells #[.int .u8 a0_0, (.slice A0_1 l0_1.length c0_1), (.slice A0_2 l0_2.length c0_2), (.slice A0_3 l0_3.length c0_3), (.slice A0_4 l0_4.length c0_4), (.slice A0_5 l0_5.length c0_5)] 25 (0, 0))) ∧ Aside0 (w'.heap[gb162]? = some (.cells #[(.slice none 0 0), (.slice none 0 0)] 30 (0, 0))) ∧ Aside0 (w'.heap[gb163]? = some (.cells #[u164000, u164001] 30 (0, 0))) ∧ Aside0 (w'.heap[gb172]? = some (.cells #[.string t171, u173001, u173002, (.slice none 0 0), .int .i64 0] 53 (0, 0))) ∧ Aside0 (Below w.heap.size w w'))
           case atStart => exact ⟨(0), (([] : List (S49))), (.slice none 0 0), (by first | rfl | (simp; done) | (simp [*]; done)), H', ⟨Nat.le_refl _⟩, ⟨by (with_reducible repeat (first | apply Kd.S_alloc | apply Kd.S_drewN | apply Kd.S_drew)); exact HO_164000.out⟩, ⟨by (with_reducible repeat (first | apply Kd.S_alloc | apply Kd.S_drewN | apply Kd.S_drew)); exact Kd.S_mono HO_164001.out (fun _ hk => ⟨hk.1, ⟨(by simp [Value.ownBlock]), hk.2⟩⟩)⟩, ⟨by (with_reducible repeat (first | apply Kd.R_alloc | apply Kd.R_drewN | apply Kd.R_drew)); exact HO_173001.out⟩, ⟨by first | exact Kd.R_nil _ _ _ _ _ | exact Kd.N_nil _ _ _ _ _ | exact Kd.V_nil _ _ _ _ _ | exact Kd.Q_nil _ _ _ _ _ | exact Kd.S_nil _ _ _ _ _⟩, ⟨bkq BK161⟩, ⟨bkq BK162⟩, ⟨bkq BK163⟩, ⟨bkq BK172⟩, ⟨by repeat (first | (with_reducible first | exact HB.out | apply below_alloc | apply pw_below_drewN | apply below_drew1 | refine below_set ?_ GE161.out | refine below_set ?_ GE162.out | refine below_set ?_ GE163.out | refine below_set ?_ GE172.out) | exact HB.out)⟩⟩
           case round =>
            clear H'
            try clear c1
            try clear p1 p1
            try clear q1 q1
            try clear hx1
            try clear c2
            try clear p2 p2
            try clear c3
            try clear p3 p3
            try clear c4
            try clear c5
            try clear c6
            try clear p6 p6
            try clear c8
            try clear c8b0
            try clear c9
            try clear c9b0
            try clear c10
            try clear c10b0
            try clear c11
            try clear c11b0
            try clear c12
            try clear c12b0
            try clear c12b1
            try clear c12b2
            try clear c14
            try clear c16
            try clear p16 p16
            try clear q16 q16
            try clear hx16
            try clear c21
            try clear c22
            try clear c24
            try clear c24b0
            try clear c29
            try clear c30
            try clear c31
            try clear p32 p32
            try clear c33
            try clear c34
            try clear c36
            try clear c36b0
            try clear c36b1
            try clear c38
            try clear c40
            try clear hcz23_0 hcz23_1 hcz23_2 hcz23_3 hcz23_4 hcz23_5 hfz23_0 hfz23_1 hfz23_2 hfz23_3 hfz23_4 hfz23_5
            try clear hcz32_0 hcz32_1 hcz32_2 hcz32_3 hcz32_4 hfz32_0 hfz32_1 hfz32_2 hfz32_3 hfz32_4
            try clear hcz35_0 hcz35_1 hcz35_2 hcz35_3 hcz35_4 hcz35_5 hfz35_0 hfz35_1 hfz35_2 hfz35_3 hfz35_4 hfz35_5
            try clear hcz7_0 hcz7_1 hcz7_2 hcz7_3 hcz7_4 hcz7_5 hfz7_0 hfz7_1 hfz7_2 hfz7_3 hfz7_4 hfz7_5
            try clear hx164_0
            try clear p164
            try clear q164
            obtain ⟨x10_5, x173002_5, u173002, rfl, HA, HK5, HO_164000, HO_164001, HO_173001, HO_173002, BK161, BK162, BK163, BK172, HB⟩ := hrel
            cases gk with
            | zero => exact absurd HA.out (by simp [maquettelaw07_Shape_Config.l2])
            | succ k5 =>
             have H := HA.out
             clear HA
             simp only [maquettelaw07_Shape_Config.l2] at H
             by_cases c46 : x10_5 < (wrap64 (Int.tmod a0_0 8))
             ·rw [if_pos c46] at H
              have c46b0 := decide_eq_true c46
              clear c46
              obtain ⟨ji47, hji47⟩ : ∃ j_ : Int, (mn x10_5 x7_2) = j_ := ⟨_, rfl⟩
              replace H : (if x10_5 = x7_2 then (maquettelaw07_Shape_Config.j5 k5 (wrap64 (Int.tmod a0_0 8)) x7_2 x10_5 (wrap64 ((wrap64 ((ji47) * (wrap64 (Int.tmod a0_0 8)))) + (mx x10_5 x7_2))) false a0_0 l0_1 l0_2 l0_3 l0_4 l0_5 x164000_1 x164001_2 t171 x173001_36 x173002_5 0) else ((maquettelaw07_number.f l0_1 (wrap64 ((wrap64 ((ji47) * (wrap64 (Int.tmod a0_0 8)))) + (mx x10_5 x7_2)))).bind fun t179 => (if (Int.tmod t179 3) > 0 then (maquettelaw07_Shape_Config.j5 k5 (wrap64 (Int.tmod a0_0 8)) x7_2 x10_5 (wrap64 ((wrap64 ((ji47) * (wrap64 (Int.tmod a0_0 8)))) + (mx x10_5 x7_2))) true a0_0 l0_1 l0_2 l0_3 l0_4 l0_5 x164000_1 x164001_2 t171 x173001_36 x173002_5 0) else (if x10_5 = (wrap64 (x7_2 + 1)) then (maquettelaw07_Shape_Config.j5 k5 (wrap64 (Int.tmod a0_0 8)) x7_2 x10_5 (wrap64 ((wrap64 ((ji47) * (wrap64 (Int.tmod a0_0 8)))) + (mx x10_5 x7_2))) true a0_0 l0_1 l0_2 l0_3 l0_4 l0_5 x164000_1 x164001_2 t171 x173001_36 x173002_5 0) else (maquettelaw07_Shape_Config.j5 k5 (wrap64 (Int.tmod a0_0 8)) x7_2 x10_5 (wrap64 ((wrap64 ((ji47) * (wrap64 (Int.tmod a0_0 8)))) + (mx x10_5 x7_2))) (x7_2 == (wrap64 (x10_5 + 1))) a0_0 l0_1 l0_2 l0_3 l0_4 l0_5 x164000_1 x164001_2 t171 x173001_36 x173002_5 0))))) = some (r1, r2) := by first | (rw [hji47] at H; exact H) | (simp only [hji47] at H ⊢; exact H)
              have hji47_ : (if x7_2 < x10_5 then x7_2 else x10_5) = ji47 := hji47
              obtain ⟨ji48, hji48⟩ : ∃ j_ : Int, (mx x10_5 x7_2) = j_ := ⟨_, rfl⟩
              replace H : (if x10_5 = x7_2 then (maquettelaw07_Shape_Config.j5 k5 (wrap64 (Int.tmod a0_0 8)) x7_2 x10_5 (wrap64 ((wrap64 ((ji47) * (wrap64 (Int.tmod a0_0 8)))) + (ji48))) false a0_0 l0_1 l0_2 l0_3 l0_4 l0_5 x164000_1 x164001_2 t171 x173001_36 x173002_5 0) else ((maquettelaw07_number.f l0_1 (wrap64 ((wrap64 ((ji47) * (wrap64 (Int.tmod a0_0 8)))) + (ji48)))).bind fun t179 => (if (Int.tmod t179 3) > 0 then (maquettelaw07_Shape_Config.j5 k5 (wrap64 (Int.tmod a0_0 8)) x7_2 x10_5 (wrap64 ((wrap64 ((ji47) * (wrap64 (Int.tmod a0_0 8)))) + (ji48))) true a0_0 l0_1 l0_2 l0_3 l0_4 l0_5 x164000_1 x164001_2 t171 x173001_36 x173002_5 0) else (if x10_5 = (wrap64 (x7_2 + 1)) then (maquettelaw07_Shape_Config.j5 k5 (wrap64 (Int.tmod a0_0 8)) x7_2 x10_5 (wrap64 ((wrap64 ((ji47) * (wrap64 (Int.tmod a0_0 8)))) + (ji48))) true a0_0 l0_1 l0_2 l0_3 l0_4 l0_5 x164000_1 x164001_2 t171 x173001_36 x173002_5 0) else (maquettelaw07_Shape_Config.j5 k5 (wrap64 (Int.tmod a0_0 8)) x7_2 x10_5 (wrap64 ((wrap64 ((ji47) * (wrap64 (Int.tmod a0_0 8)))) + (ji48))) (x7_2 == (wrap64 (x10_5 + 1))) a0_0 l0_1 l0_2 l0_3 l0_4 l0_5 x164000_1 x164001_2 t171 x173001_36 x173002_5 0))))) = some (r1, r2) := by first | (rw [hji48] at H; exact H) | (simp only [hji48] at H ⊢; exact H)
              have hji48_ : (if x10_5 < x7_2 then x7_2 else x10_5) = ji48 := hji48
              have HC49 := Aside0.mk H
              clear H
              go_upto_region 20 with (fail)
              go_cut [105] (fun v105 wc => ∃ (kq : Nat) (x105_48 : Bool), v105 = .bool x105_48 ∧ Aside0 (maquettelaw07_Shape_Config.j5 kq (wrap64 (Int.tmod a0_0 8)) x7_2 x10_5 (wrap64 ((wrap64 ((ji47) * (wrap64 (Int.tmod a0_0 8)))) + (ji48))) x105_48 a0_0 l0_1 l0_2 l0_3 l0_4 l0_5 x164000_1 x164001_2 t171 x173001_36 x173002_5 0 = some (r1, r2)) ∧ Aside0 (kq ≤ k5) ∧ Aside0 (Kd.S k57 57 wc w.heap.size (fun _ => True) u164000 x164000_1) ∧ Aside0 (Kd.S k53 53 wc w.heap.size (fun k_ => some k_ ≠ (u173001 : Value).ownBlock ∧ some k_ ≠ (u173002 : Value).ownBlock ∧ k_ ≠ gb172) u164001 x164001_2) ∧ Aside0 (Kd.R k36 36 wc w.heap.size (fun _ => True) u173001 x173001_36) ∧ Aside0 (Kd.R k49 49 wc w.heap.size (fun _ => True) u173002 x173002_5) ∧ Aside0 (wc.heap[gb161]? = some (.cells #[.int .u8 a0_0, (.slice A0_1 l0_1.length c0_1), (.slice A0_2 l0_2.length c0_2), (.slice A0_3 l0_3.length c0_3), (.slice A0_4 l0_4.length c0_4), (.slice A0_5 l0_5.length c0_5)] 25 (0, 0))) ∧ Aside0 (wc.heap[gb162]? = some (.cells #[(.slice none 0 0), (.slice none 0 0)] 30 (0, 0))) ∧ Aside0 (wc.heap[gb163]? = some (.cells #[u164000, u164001] 30 (0, 0))) ∧ Aside0 (wc.heap[gb172]? = some (.cells #[.string t171, u173001, u173002, (.slice none 0 0), .int .i64 0] 53 (0, 0))) ∧ Aside0 (Below w.heap.size w wc))
              case first =>
               have H := HC49.out
               clear HC49
               by_cases c50 : x10_5 = x7_2
               ·rw [if_pos c50] at H
                have c50b0 : (x10_5 == x7_2) = true := beq_iff_eq.mpr c50
                have c50b1 : (x10_5 != x7_2) = false := bne_eq_false_iff_eq.mpr c50
                clear c50
                (first | rw [c50b0] | (simp only [i64_w, i32_w]; rw [c50b0]) | skip)
                have H' := Aside0.mk H
                clear H
                go_wp2
                go_meet
                case rel => exact ⟨_, (false), (by first | rfl | (simp; done) | (simp [*]; done)), H', ⟨by have := HK1.out; have := HK2.out; have := HJ26.out; have := HJ36.out; have := HK5.out; first | omega | exact Nat.le_refl _⟩, ⟨by (with_reducible repeat (first | apply Kd.S_alloc | apply Kd.S_drewN | apply Kd.S_drew)); exact HO_164000.out⟩, ⟨by (with_reducible repeat (first | apply Kd.S_alloc | apply Kd.S_drewN | apply Kd.S_drew)); exact HO_164001.out⟩, ⟨by (with_reducible repeat (first | apply Kd.R_alloc | apply Kd.R_drewN | apply Kd.R_drew)); exact HO_173001.out⟩, ⟨by (with_reducible repeat (first | apply Kd.R_alloc | apply Kd.R_drewN | apply Kd.R_drew)); exact HO_173002.out⟩, ⟨bkq BK161⟩, ⟨bkq BK162⟩, ⟨bkq BK163⟩, ⟨bkq BK172⟩, ⟨by repeat (first | (with_reducible first | exact HB.out | apply below_alloc | apply pw_below_drewN | apply below_drew1 | refine below_set ?_ GE161.out | refine below_set ?_ GE162.out | refine below_set ?_ GE163.out | refine below_set ?_ GE172.out) | exact HB.out)⟩⟩
               ·rw [if_neg c50] at H
                have c50b0 : (x10_5 == x7_2) = false := beq_eq_false_iff_ne.mpr c50
                have c50b1 : (x10_5 != x7_2) = true := bne_iff_ne.mpr c50
                (first | rw [c50b0] | (simp only [i64_w, i32_w]; rw [c50b0]) | skip)
                replace H := Option.bind_eq_some_iff.mp H
                obtain ⟨t179, A510, H⟩ := H
                replace H : (if (Int.tmod t179 3) > 0 then (maquettelaw07_Shape_Config.j5 k5 (wrap64 (Int.tmod a0_0 8)) x7_2 x10_5 (wrap64 ((wrap64 ((ji47) * (wrap64 (Int.tmod a0_0 8)))) + (ji48))) true a0_0 l0_1 l0_2 l0_3 l0_4 l0_5 x164000_1 x164001_2 t171 x173001_36 x173002_5 0) else (if x10_5 = (wrap64 (x7_2 + 1)) then (maquettelaw07_Shape_Config.j5 k5 (wrap64 (Int.tmod a0_0 8)) x7_2 x10_5 (wrap64 ((wrap64 ((ji47) * (wrap64 (Int.tmod a0_0 8)))) + (ji48))) true a0_0 l0_1 l0_2 l0_3 l0_4 l0_5 x164000_1 x164001_2 t171 x173001_36 x173002_5 0) else (maquettelaw07_Shape_Config.j5 k5 (wrap64 (Int.tmod a0_0 8)) x7_2 x10_5 (wrap64 ((wrap64 ((ji47) * (wrap64 (Int.tmod a0_0 8)))) + (ji48))) (x7_2 == (wrap64 (x10_5 + 1))) a0_0 l0_1 l0_2 l0_3 l0_4 l0_5 x164000_1 x164001_2 t171 x173001_36 x173002_5 0))) = some (r1, r2) := H
                have A51 := Aside0.mk A510
                clear A510
                by_cases c52 : (Int.tmod t179 3) > 0
                ·rw [if_pos c52] at H
                 have c52b0 : decide (0 < (Int.tmod t179 3)) = true := decide_eq_true c52
                 clear c52
                 have H' := Aside0.mk H
                 clear H
                 have hnb53 := NB161_162.out
                 have hnc53 := NB162_161.out
                 have hnb54 := NB161_163.out
                 have hnc54 := NB163_161.out
                 have hnb55 := NB161_172.out
                 have hnc55 := NB172_161.out
                 obtain ⟨hcz56_0, hcz56_1, hcz56_2, hcz56_3, hcz56_4, hcz56_5, hfz56_0, hfz56_1, hfz56_2, hfz56_3, hfz56_4, hfz56_5⟩ := bc6 BK161
                 go_wp2_with (first | (go_at_call 10; (with_reducible refine (maquettelaw07_number.calls _ _ l0_1 (wrap64 ((wrap64 ((ji47) * (wrap64 (Int.tmod a0_0 8)))) + (ji48))) t179 _ ?side1 ?side2 A51.out).mono ?_); (case side1 => exact kcb HR0_1); (case side2 => exact HC0_1.out); rintro e w' ⟨rfl, ⟨nd, rfl⟩⟩))
                 go_meet
                 case rel => exact ⟨_, (true), (by first | rfl | (simp; done) | (simp [*]; done)), H', ⟨by have := HK1.out; have := HK2.out; have := HJ26.out; have := HJ36.out; have := HK5.out; first | omega | exact Nat.le_refl _⟩, ⟨by (with_reducible repeat (first | apply Kd.S_alloc | apply Kd.S_drewN | apply Kd.S_drew)); exact HO_164000.out⟩, ⟨by (with_reducible repeat (first | apply Kd.S_alloc | apply Kd.S_drewN | apply Kd.S_drew)); exact HO_164001.out⟩, ⟨by (with_reducible repeat (first | apply Kd.R_alloc | apply Kd.R_drewN | apply Kd.R_drew)); exact HO_173001.out⟩, ⟨by (with_reducible repeat (first | apply Kd.R_alloc | apply Kd.R_drewN | apply Kd.R_drew)); exact HO_173002.out⟩, ⟨bkq BK161⟩, ⟨bkq BK162⟩, ⟨bkq BK163⟩, ⟨bkq BK172⟩, ⟨by repeat (first | (with_reducible first | exact HB.out | apply below_alloc | apply pw_below_drewN | apply below_drew1 | refine below_set ?_ GE161.out | refine below_set ?_ GE162.out | refine below_set ?_ GE163.out | refine below_set ?_ GE172.out) | exact HB.out)⟩⟩
                ·rw [if_neg c52] at H
                 have c52b0 : decide (0 < (Int.tmod t179 3)) = false := decide_eq_false c52
                 clear c52
                 by_cases c57 : x10_5 = (wrap64 (x7_2 + 1))
                 ·rw [if_pos c57] at H
                  have c57b0 : (x10_5 == (wrap64 (x7_2 + 1))) = true := beq_iff_eq.mpr c57
                  have c57b1 : (x10_5 != (wrap64 (x7_2 + 1))) = false := bne_eq_false_iff_eq.mpr c57
                  clear c57
                  have H' := Aside0.mk H
                  clear H
                  have hnb58 := NB161_162.out
                  have hnc58 := NB162_161.out
                  have hnb59 := NB161_163.out
                  have hnc59 := NB163_161.out
                  have hnb60 := NB161_172.out
                  have hnc60 := NB172_161.out
                  obtain ⟨hcz61_0, hcz61_1, hcz61_2, hcz61_3, hcz61_4, hcz61_5, hfz61_0, hfz61_1, hfz61_2, hfz61_3, hfz61_4, hfz61_5⟩ := bc6 BK161
                  go_wp2_with (first | (go_at_call 10; (with_reducible refine (maquettelaw07_number.calls _ _ l0_1 (wrap64 ((wrap64 ((ji47) * (wrap64 (Int.tmod a0_0 8)))) + (ji48))) t179 _ ?side1 ?side2 A51.out).mono ?_); (case side1 => exact kcb HR0_1); (case side2 => exact HC0_1.out); rintro e w' ⟨rfl, ⟨nd, rfl⟩⟩))
                  go_meet
                  case rel => exact ⟨_, (true), (by first | rfl | (simp; done) | (simp [*]; done)), H', ⟨by have := HK1.out; have := HK2.out; have := HJ26.out; have := HJ36.out; have := HK5.out; first | omega | exact Nat.le_refl _⟩, ⟨by (with_reducible repeat (first | apply Kd.S_alloc | apply Kd.S_drewN | apply Kd.S_drew)); exact HO_164000.out⟩, ⟨by (with_reducible repeat (first | apply Kd.S_alloc | apply Kd.S_drewN | apply Kd.S_drew)); exact HO_164001.out⟩, ⟨by (with_reducible repeat (first | apply Kd.R_alloc | apply Kd.R_drewN | apply Kd.R_drew)); exact HO_173001.out⟩, ⟨by (with_reducible repeat (first | apply Kd.R_alloc | apply Kd.R_drewN | apply Kd.R_drew)); exact HO_173002.out⟩, ⟨bkq BK161⟩, ⟨bkq BK162⟩, ⟨bkq BK163⟩, ⟨bkq BK172⟩, ⟨by repeat (first | (with_reducible first | exact HB.out | apply below_alloc | apply pw_below_drewN | apply below_drew1 | refine below_set ?_ GE161.out | refine below_set ?_ GE162.out | refine below_set ?_ GE163.out | refine below_set ?_ GE172.out) | exact HB.out)⟩⟩
                 ·rw [if_neg c57] at H
                  have c57b0 : (x10_5 == (wrap64 (x7_2 + 1))) = false := beq_eq_false_iff_ne.mpr c57
                  have c57b1 : (x10_5 != (wrap64 (x7_2 + 1))) = true := bne_iff_ne.mpr c57
                  have H' := Aside0.mk H
                  clear H
                  have hnb62 := NB161_162.out
                  have hnc62 := NB162_161.out
                  have hnb63 := NB161_163.out
                  have hnc63 := NB163_161.out
                  have hnb64 := NB161_172.out
                  have hnc64 := NB172_161.out
                  obtain ⟨hcz65_0, hcz65_1, hcz65_2, hcz65_3, hcz65_4, hcz65_5, hfz65_0, hfz65_1, hfz65_2, hfz65_3, hfz65_4, hfz65_5⟩ := bc6 BK161
                  go_wp2_with (first | (go_at_call 10; (with_reducible refine (maquettelaw07_number.calls _ _ l0_1 (wrap64 ((wrap64 ((ji47) * (wrap64 (Int.tmod a0_0 8)))) + (ji48))) t179 _ ?side1 ?side2 A51.out).mono ?_); (case side1 => exact kcb HR0_1); (case side2 => exact HC0_1.out); rintro e w' ⟨rfl, ⟨nd, rfl⟩⟩))
                  go_meet
                  case rel => exact ⟨_, ((x7_2 == (wrap64 (x10_5 + 1)))), (by first | rfl | (simp; done) | (simp [*]; done)), H', ⟨by have := HK1.out; have := HK2.out; have := HJ26.out; have := HJ36.out; have := HK5.out; first | omega | exact Nat.le_refl _⟩, ⟨by (with_reducible repeat (first | apply Kd.S_alloc | apply Kd.S_drewN | apply Kd.S_drew)); exact HO_164000.out⟩, ⟨by (with_reducible repeat (first | apply Kd.S_alloc | apply Kd.S_drewN | apply Kd.S_drew)); exact HO_164001.out⟩, ⟨by (with_reducible repeat (first | apply Kd.R_alloc | apply Kd.R_drewN | apply Kd.R_drew)); exact HO_173001.out⟩, ⟨by (with_reducible repeat (first | apply Kd.R_alloc | apply Kd.R_drewN | apply Kd.R_drew)); exact HO_173002.out⟩, ⟨bkq BK161⟩, ⟨bkq BK162⟩, ⟨bkq BK163⟩, ⟨bkq BK172⟩, ⟨by repeat (first | (with_reducible first | exact HB.out | apply below_alloc | apply pw_below_drewN | apply below_drew1 | refine below_set ?_ GE161.out | refine below_set ?_ GE162.out | refine below_set ?_ GE163.out | refine below_set ?_ GE172.out) | exact HB.out)⟩⟩
              case rest =>
               clear HC49
               try clear c1
               try clear p1 p1
               try clear q1 q1
               try clear hx1
               try clear c2
               try clear p2 p2
               try clear c3
               try clear p3 p3
               try clear c4
               try clear c5
               try clear c6
               try clear p6 p6
               try clear c8
               try clear c8b0
               try clear c9
               try clear c9b0
               try clear c10
               try clear c10b0
               try clear c11
               try clear c11b0
               try clear c12
               try clear c12b0
               try clear c12b1
               try clear c12b2
               try clear c14
               try clear c16
               try clear p16 p16
               try clear q16 q16
               try clear hx16
               try clear c21
               try clear c22
               try clear c24
               try clear c24b0
               try clear c29
               try clear c30
               try clear c31
               try clear p32 p32
               try clear c33
               try clear c34
               try clear c36
               try clear c36b0
               try clear c36b1
               try clear c38
               try clear c40
               try clear c46
               try clear c46b0
               try clear c50
               try clear c50b0
               try clear c50b1
               try clear c52
               try clear c52b0
               try clear c53
               try clear c54
               try clear c55
               try clear c57
               try clear c57b0
               try clear c57b1
               try clear c58
               try clear c59
               try clear c60
               try clear c62
               try clear c63
               try clear c64
               try clear p64
               try clear hcz23_0 hcz23_1 hcz23_2 hcz23_3 hcz23_4 hcz23_5 hfz23_0 hfz23_1 hfz23_2 hfz23_3 hfz23_4 hfz23_5
               try clear hcz32_0 hcz32_1 hcz32_2 hcz32_3 hcz32_4 hfz32_0 hfz32_1 hfz32_2 hfz32_3 hfz32_4
               try clear hcz35_0 hcz35_1 hcz35_2 hcz35_3 hcz35_4 hcz35_5 hfz35_0 hfz35_1 hfz35_2 hfz35_3 hfz35_4 hfz35_5
               try clear hcz56_0 hcz56_1 hcz56_2 hcz56_3 hcz56_4 hcz56_5 hfz56_0 hfz56_1 hfz56_2 hfz56_3 hfz56_4 hfz56_5
               try clear hcz61_0 hcz61_1 hcz61_2 hcz61_3 hcz61_4 hcz61_5 hfz61_0 hfz61_1 hfz61_2 hfz61_3 hfz61_4 hfz61_5
               try clear hcz65_0 hcz65_1 hcz65_2 hcz65_3 hcz65_4 hcz65_5 hfz65_0 hfz65_1 hfz65_2 hfz65_3 hfz65_4 hfz65_5
               try clear hcz7_0 hcz7_1 hcz7_2 hcz7_3 hcz7_4 hcz7_5 hfz7_0 hfz7_1 hfz7_2 hfz7_3 hfz7_4 hfz7_5
               try clear hx164_0
               try clear p164
               try clear q164
               obtain ⟨kq, x105_48, rfl, HA, HJ48, HO_164000, HO_164001, HO_173001, HO_173002, BK161, BK162, BK163, BK172, HB⟩ := hcut
               cases kq with
               | zero => exact absurd HA.out (by simp [maquettelaw07_Shape_Config.j5])
               | succ kj48 =>
                have H := HA.out
                clear HA
                simp only [maquettelaw07_Shape_Config.j5] at H
                by_cases c66 : x105_48 = true
                ·subst c66
                 have H1 : ((maquettelaw07_number.f l0_3 (wrap64 ((wrap64 (x7_2 * (wrap64 (Int.tmod a0_0 8)))) + x10_5))).bind fun t180 => ((maquettelaw07_Name.f x10_5).bind fun t181 => ((maquettelaw07_number.f l0_1 (wrap64 ((wrap64 ((ji47) * (wrap64 (Int.tmod a0_0 8)))) + (ji48)))).bind fun t182 => ((maquettelaw07_Shape_mapped.f a0_0 l0_1 l0_2 l0_3 l0_4 l0_5 t180).bind fun t183 => ((maquettelaw07_Shape_mapped.f a0_0 l0_1 l0_2 l0_3 l0_4 l0_5 (wrap64 (Int.tdiv t180 12))).bind fun t184 => (if x173002_5.length < 2199023255552 then (maquettelaw07_Shape_Config.l2 kj48 (wrap64 (Int.tmod a0_0 8)) x7_2 (wrap64 (x10_5 + 1)) a0_0 l0_1 l0_2 l0_3 l0_4 l0_5 x164000_1 x164001_2 t171 x173001_36 (x173002_5 ++ [(⟨t181, wrap64 (1 + (Int.tmod (wrap64 (Int.tdiv t182 3)) 3)), t183, t184, 0⟩ : S49)]) 0) else (none))))))) = some (r1, r2) := by rw [if_pos rfl] at H; exact H
                 clear H
                 have H := H1
                 clear H1
                 replace H := Option.bind_eq_some_iff.mp H
                 obtain ⟨t180, A670, H⟩ := H
                 replace H : ((maquettelaw07_Name.f x10_5).bind fun t181 => ((maquettelaw07_number.f l0_1 (wrap64 ((wrap64 ((ji47) * (wrap64 (Int.tmod a0_0 8)))) + (ji48)))).bind fun t182 => ((maquettelaw07_Shape_mapped.f a0_0 l0_1 l0_2 l0_3 l0_4 l0_5 t180).bind fun t183 => ((maquettelaw07_Shape_mapped.f a0_0 l0_1 l0_2 l0_3 l0_4 l0_5 (wrap64 (Int.tdiv t180 12))).bind fun t184 => (if x173002_5.length < 2199023255552 then (maquettelaw07_Shape_Config.l2 kj48 (wrap64 (Int.tmod a0_0 8)) x7_2 (wrap64 (x10_5 + 1)) a0_0 l0_1 l0_2 l0_3 l0_4 l0_5 x164000_1 x164001_2 t171 x173001_36 (x173002_5 ++ [(⟨t181, wrap64 (1 + (Int.tmod (wrap64 (Int.tdiv t182 3)) 3)), t183, t184, 0⟩ : S49)]) 0) else (none)))))) = some (r1, r2) := H
                 have A67 := Aside0.mk A670
                 clear A670
                 replace H := Option.bind_eq_some_iff.mp H
                 obtain ⟨t181, A680, H⟩ := H
                 replace H : ((maquettelaw07_number.f l0_1 (wrap64 ((wrap64 ((ji47) * (wrap64 (Int.tmod a0_0 8)))) + (ji48)))).bind fun t182 => ((maquettelaw07_Shape_mapped.f a0_0 l0_1 l0_2 l0_3 l0_4 l0_5 t180).bind fun t183 => ((maquettelaw07_Shape_mapped.f a0_0 l0_1 l0_2 l0_3 l0_4 l0_5 (wrap64 (Int.tdiv t180 12))).bind fun t184 => (if x173002_5.length < 2199023255552 then (maquettelaw07_Shape_Config.l2 kj48 (wrap64 (Int.tmod a0_0 8)) x7_2 (wrap64 (x10_5 + 1)) a0_0 l0_1 l0_2 l0_3 l0_4 l0_5 x164000_1 x164001_2 t171 x173001_36 (x173002_5 ++ [(⟨t181, wrap64 (1 + (Int.tmod (wrap64 (Int.tdiv t182 3)) 3)), t183, t184, 0⟩ : S49)]) 0) else (none))))) = some (r1, r2) := H
                 have A68 := Aside0.mk A680
                 clear A680
                 replace H := Option.bind_eq_some_iff.mp H
                 obtain ⟨t182, A690, H⟩ := H
                 replace H : ((maquettelaw07_Shape_mapped.f a0_0 l0_1 l0_2 l0_3 l0_4 l0_5 t180).bind fun t183 => ((maquettelaw07_Shape_mapped.f a0_0 l0_1 l0_2 l0_3 l0_4 l0_5 (wrap64 (Int.tdiv t180 12))).bind fun t184 => (if x173002_5.length < 2199023255552 then (maquettelaw07_Shape_Config.l2 kj48 (wrap64 (Int.tmod a0_0 8)) x7_2 (wrap64 (x10_5 + 1)) a0_0 l0_1 l0_2 l0_3 l0_4 l0_5 x164000_1 x164001_2 t171 x173001_36 (x173002_5 ++ [(⟨t181, wrap64 (1 + (Int.tmod (wrap64 (Int.tdiv t182 3)) 3)), t183, t184, 0⟩ : S49)]) 0) else (none)))) = some (r1, r2) := H
                 have A69 := Aside0.mk A690
                 clear A690
                 replace H := Option.bind_eq_some_iff.mp H
                 obtain ⟨t183, A700, H⟩ := H
                 replace H : ((maquettelaw07_Shape_mapped.f a0_0 l0_1 l0_2 l0_3 l0_4 l0_5 (wrap64 (Int.tdiv t180 12))).bind fun t184 => (if x173002_5.length < 2199023255552 then (maquettelaw07_Shape_Config.l2 kj48 (wrap64 (Int.tmod a0_0 8)) x7_2 (wrap64 (x10_5 + 1)) a0_0 l0_1 l0_2 l0_3 l0_4 l0_5 x164000_1 x164001_2 t171 x173001_36 (x173002_5 ++ [(⟨t181, wrap64 (1 + (Int.tmod (wrap64 (Int.tdiv t182 3)) 3)), t183, t184, 0⟩ : S49)]) 0) else (none))) = some (r1, r2) := H
                 have A70 := Aside0.mk A700
                 clear A700
                 replace H := Option.bind_eq_some_iff.mp H
                 obtain ⟨t184, A710, H⟩ := H
                 replace H : (if x173002_5.length < 2199023255552 then (maquettelaw07_Shape_Config.l2 kj48 (wrap64 (Int.tmod a0_0 8)) x7_2 (wrap64 (x10_5 + 1)) a0_0 l0_1 l0_2 l0_3 l0_4 l0_5 x164000_1 x164001_2 t171 x173001_36 (x173002_5 ++ [(⟨t181, wrap64 (1 + (Int.tmod (wrap64 (Int.tdiv t182 3)) 3)), t183, t184, 0⟩ : S49)]) 0) else (none)) = some (r1, r2) := H
                 have A71 := Aside0.mk A710
                 clear A710
                 by_cases c72 : x173002_5.length < 2199023255552
                 ·rw [if_pos c72] at H
                  have LMc72 := Aside0.mk c72
                  clear c72
                  obtain ⟨y185, hy185⟩ : ∃ y_ : List (S49), y_ = (x173002_5 ++ [(⟨t181, wrap64 (1 + (Int.tmod (wrap64 (Int.tdiv t182 3)) 3)), t183, t184, 0⟩ : S49)]) := ⟨_, rfl⟩
                  replace H : (maquettelaw07_Shape_Config.l2 kj48 (wrap64 (Int.tmod a0_0 8)) x7_2 (wrap64 (x10_5 + 1)) a0_0 l0_1 l0_2 l0_3 l0_4 l0_5 x164000_1 x164001_2 t171 x173001_36 y185 0) = some (r1, r2) := by first | (rw [hy185]; with_reducible exact H) | (have H2_ := (Option.bind_some _ _).symm.trans H; rw [hy185]; with_reducible exact H2_) | (have H2_ := (Option.bind_some _ _).symm.trans H; with_reducible exact H2_) | with_reducible exact H | (rw [hy185]; exact H) | exact H
                  have Ny185 := Aside0.mk hy185
                  clear hy185
                  have H' := Aside0.mk H
                  clear H
                  have hnb73 := NB161_162.out
                  have hnc73 := NB162_161.out
                  have hnb74 := NB161_163.out
                  have hnc74 := NB163_161.out
                  have hnb75 := NB161_172.out
                  have hnc75 := NB172_161.out
                  obtain ⟨hcz76_0, hcz76_1, hcz76_2, hcz76_3, hcz76_4, hcz76_5, hfz76_0, hfz76_1, hfz76_2, hfz76_3, hfz76_4, hfz76_5⟩ := bc6 BK161
                  try go_wp2_with (first | ((with_reducible refine gate_dst (N := 113) rfl ?_); refine gl (some 113) Try.func10 #[.slice A0_3 l0_3.length c0_3, .int .i64 (wrap64 ((wrap64 (x7_2 * (wrap64 (Int.tmod a0_0 8)))) + x10_5))] ?_; (with_reducible refine (maquettelaw07_number.calls _ _ l0_3 (wrap64 ((wrap64 (x7_2 * (wrap64 (Int.tmod a0_0 8)))) + x10_5)) t180 _ ?side1 ?side2 A67.out).mono ?_); (case side1 => exact kcb HR0_3); (case side2 => exact HC0_3.out); rintro e w' ⟨rfl, ⟨nd, rfl⟩⟩; refine ⟨_, rfl, ?_⟩; (try (rw [drewN_self wc]; generalize hq_ : World.drewN wc _ = wc; replace HO_164000 := dS hq_ HO_164000; replace HO_164001 := dS hq_ HO_164001; replace HO_173001 := dR hq_ HO_173001; replace HO_173002 := dR hq_ HO_173002; replace BK161 : Aside0 (wc.heap[gb161]? = some (.cells #[.int .u8 a0_0, .slice A0_1 l0_1.length c0_1, .slice A0_2 l0_2.length c0_2, .slice A0_3 l0_3.length c0_3, .slice A0_4 l0_4.length c0_4, .slice A0_5 l0_5.length c0_5] 25 (0, 0))) := ⟨by rw [← hq_]; exact (bkq BK161)⟩; replace BK162 : Aside0 (wc.heap[gb162]? = some (.cells #[.slice none 0 0, .slice none 0 0] 30 (0, 0))) := ⟨by rw [← hq_]; exact (bkq BK162)⟩; replace BK163 : Aside0 (wc.heap[gb163]? = some (.cells #[u164000, u164001] 30 (0, 0))) := ⟨by rw [← hq_]; exact (bkq BK163)⟩; replace BK172 : Aside0 (wc.heap[gb172]? = some (.cells #[.string t171, u173001, u173002, .slice none 0 0, .int .i64 0] 53 (0, 0))) := ⟨by rw [← hq_]; exact (bkq BK172)⟩; replace HB : Aside0 (Below w.heap.size w wc) := ⟨by rw [← hq_]; exact bel⟩; clear hq_))))
                  replace HO_164000 := Aside0.mk (Kd.S_drew HO_164000.out)
                  replace HO_164001 := Aside0.mk (Kd.S_drew HO_164001.out)
                  replace HO_173001 := Aside0.mk (Kd.R_drew HO_173001.out)
                  replace HO_173002 := Aside0.mk (Kd.R_drew HO_173002.out)
                  replace BK161 := Aside0.mk (blk_drew BK161.out)
                  replace BK162 := Aside0.mk (blk_drew BK162.out)
                  replace BK163 := Aside0.mk (blk_drew BK163.out)
                  replace BK172 := Aside0.mk (blk_drew BK172.out)
                  replace HB := Aside0.mk (below_drew1 HB.out)
                  refine start_ (n := 23) (S := fun w' => CS5 w' gb172 (.string t171) (u173001) (u173002) (.slice none 0 0) (.int .i64 0) (CE6 w' gb161 (.int .u8 a0_0) (.slice A0_1 l0_1.length c0_1) (.slice A0_2 l0_2.length c0_2) (.slice A0_3 l0_3.length c0_3) (.slice A0_4 l0_4.length c0_4) (.slice A0_5 l0_5.length c0_5))) (ds := [22]) #[false, false, false, false, false, false, false, false, false, false, false, false, false, false, false, false, false, false, false, false, false, false, false] (by kernel_rfl) rfl rfl (hs5 BK172 (he6 BK161)) (fun hHeld => ?_); refine with_tabW maquettelaw07_Shape_Config.tab22 maquettelaw07_Shape_Config.bits22 (fun HT_ HW_ => ?_)
                  generalize wc.drew = w77 at HO_164000 HO_164001 HO_173001 HO_173002 BK161 BK162 BK163 BK172 HB hHeld ⊢
                  refine pu HT_ 0 (some 114) (mk 23 1) ?_
                  refine pu HT_ 2 (some 116) (mk 23 5) ?_
                  refine pu HT_ 4 (some 118) (mk 23 21) ?_
                  refine pu HT_ 6 (some 120) (mk 23 85) ?_
                  refine pu HT_ 12 (some 126) (mk 23 4181) ?_
                  refine pu HT_ 15 (some 129) (mk 23 36949) ?_
                  refine pu HT_ 16 (some 130) (mk 23 102485) ?_
                  refine tk HT_ HW_ 1 (some 115) (mk 23 102487) hHeld ?_
                  refine tk HT_ HW_ 5 (some 119) (mk 23 102519) hHeld ?_
                  refine tk HT_ HW_ 11 (some 125) (mk 23 104567) hHeld ?_
                  refine tk HT_ HW_ 14 (some 128) (mk 23 120951) hHeld ?_
                  refine on HT_ 3 (some 117) (mk 23 120959) fun K hK => ?_
                  refine go1 Try.func9 #[.int .i64 x10_5] ?_
                  with_reducible refine (maquettelaw07_Name.calls x10_5 t181 _ A68.out).mono ?_
                  rintro e w' ⟨rfl, ⟨nd, rfl⟩⟩
                  refine ⟨_, rfl, ?_⟩
                  refine hK.out _ _ (hs5 BK172 (he6 BK161)) (fun hHeld => ?_)
                  clear hK K
                  refine nm (some 117) ?_
                  refine on HT_ 7 (some 121) (mk 23 121087) fun K hK => ?_
                  refine goes_ Try.func10 (by kernel_rfl) rfl #[.slice A0_1 l0_1.length c0_1, .int .i64 (wrap64 ((wrap64 ((ji47) * (wrap64 (Int.tmod a0_0 8)))) + (ji48)))] (by rfl) rfl rfl (by (try simp only [List.map_toArray, List.map_cons, List.map_nil]); first | done | (simp only [hji47, hji48]; rfl) | rfl | (simp only [List.length_drop, List.length_take]; rfl)) ?_
                  with_reducible refine (maquettelaw07_number.calls _ _ l0_1 (wrap64 ((wrap64 ((ji47) * (wrap64 (Int.tmod a0_0 8)))) + (ji48))) t182 _ ?side1 ?side2 A69.out).mono ?_
                  (case side1 => exact kcb HR0_1)
                  (case side2 => exact HC0_1.out)
                  rintro e w' ⟨rfl, ⟨nd, rfl⟩⟩
                  refine ⟨_, rfl, ?_⟩
                  refine hK.out _ _ (hs5 BK172 (he6 BK161)) (fun hHeld => ?_)
                  clear hK K
                  refine nm (some 121) ?_
                  refine pu HT_ 8 (some 122) (mk 23 121343) ?_
                  refine pu HT_ 9 (some 123) (mk 23 121855) ?_
                  refine pu HT_ 10 (some 124) (mk 23 122879) ?_
                  refine on HT_ 13 (some 127) (mk 23 131071) fun K hK => ?_
                  refine go1 Try.func12 #[.agg #[.int .u8 a0_0, .slice A0_1 l0_1.length c0_1, .slice A0_2 l0_2.length c0_2, .slice A0_3 l0_3.length c0_3, .slice A0_4 l0_4.length c0_4, .slice A0_5 l0_5.length c0_5], .int .i64 t180] ?_
                  with_reducible refine (maquettelaw07_Shape_mapped.calls a0_0 _ _ l0_1 _ _ l0_2 _ _ l0_3 _ _ l0_4 _ _ l0_5 t180 t183 _ ?side1 ?side2 ?side3 ?side4 ?side5 ?side6 ?side7 ?side8 ?side9 ?side10 A70.out).mono ?_
                  (case side1 => exact kcb HR0_1)
                  (case side2 => exact HC0_1.out)
                  (case side3 => exact kcb HR0_2)
                  (case side4 => exact HC0_2.out)
                  (case side5 => exact kcb HR0_3)
                  (case side6 => exact HC0_3.out)
                  (case side7 => exact kcb HR0_4)
                  (case side8 => exact HC0_4.out)
                  (case side9 => exact kcb HR0_5)
                  (case side10 => exact HC0_5.out)
                  rintro e w78 ⟨rfl, hb⟩
                  refine ⟨_, rfl, ?_⟩
                  replace HO_164000 := Aside0.mk (Kd.S_below (kS HO_164000) hb)
                  replace HO_164001 := Aside0.mk (Kd.S_below (kS HO_164001) hb)
                  replace HO_173001 := Aside0.mk (Kd.R_below (kR HO_173001) hb)
                  replace HO_173002 := Aside0.mk (Kd.R_below (kR HO_173002) hb)
                  replace BK161 := bkb BK161 hb
                  replace BK162 := bkb BK162 hb
                  replace BK163 := bkb BK163 hb
                  replace BK172 := bkb BK172 hb
                  replace HB := bst hb
                  (try clear hb)
                  (try clear hb2)
                  (try clear hk)
                  (try clear hi)
                  refine hK.out _ _ (hs5 BK172 (he6 BK161)) (fun hHeld => ?_)
                  clear hK K
                  refine nm (some 127) ?_
                  refine on HT_ 17 (some 131) (mk 23 262143) fun K hK => ?_
                  refine go1 Try.func12 #[.agg #[.int .u8 a0_0, .slice A0_1 l0_1.length c0_1, .slice A0_2 l0_2.length c0_2, .slice A0_3 l0_3.length c0_3, .slice A0_4 l0_4.length c0_4, .slice A0_5 l0_5.length c0_5], .int .i64 (wrap64 (Int.tdiv t180 12))] ?_
                  with_reducible refine (maquettelaw07_Shape_mapped.calls a0_0 _ _ l0_1 _ _ l0_2 _ _ l0_3 _ _ l0_4 _ _ l0_5 (wrap64 (Int.tdiv t180 12)) t184 _ ?side1 ?side2 ?side3 ?side4 ?side5 ?side6 ?side7 ?side8 ?side9 ?side10 A71.out).mono ?_
                  (case side1 => exact kcb HR0_1)
                  (case side2 => exact HC0_1.out)
                  (case side3 => exact kcb HR0_2)
                  (case side4 => exact HC0_2.out)
                  (case side5 => exact kcb HR0_3)
                  (case side6 => exact HC0_3.out)
                  (case side7 => exact kcb HR0_4)
                  (case side8 => exact HC0_4.out)
                  (case side9 => exact kcb HR0_5)
                  (case side10 => exact HC0_5.out)
                  rintro e w79 ⟨rfl, hb⟩
                  refine ⟨_, rfl, ?_⟩
                  replace HO_164000 := Aside0.mk (Kd.S_below (kS HO_164000) hb)
                  replace HO_164001 := Aside0.mk (Kd.S_below (kS HO_164001) hb)
                  replace HO_173001 := Aside0.mk (Kd.R_below (kR HO_173001) hb)
                  replace HO_173002 := Aside0.mk (Kd.R_below (kR HO_173002) hb)
                  replace BK161 := bkb BK161 hb
                  replace BK162 := bkb BK162 hb
                  replace BK163 := bkb BK163 hb
                  replace BK172 := bkb BK172 hb
                  replace HB := bst hb
                  (try clear hb)
                  (try clear hb2)
                  (try clear hk)
                  (try clear hi)
                  refine hK.out _ _ (hs5 BK172 (he6 BK161)) (fun hHeld => ?_)
                  clear hK K
                  refine nm (some 131) ?_
                  refine pu HT_ 18 (some 132) (mk 23 524287) ?_
                  refine on HT_ 19 (some 133) (mk 23 1048575) fun K hK => ?_
                  refine value_ (w1 := ?_) (v := ?_) (by rfl) rfl ?_ ?_
                  rotate_left 2
                  ·go_simp
                   constructor
                   ·rfl
                   ·rfl
                  refine hK.out _ _ ⟨(blk_cell (blk_alloc BK172.out _) 0).trans rfl, (blk_cell (blk_alloc BK172.out _) 1).trans rfl, (blk_cell (blk_alloc BK172.out _) 2).trans rfl, (blk_cell (blk_alloc BK172.out _) 3).trans rfl, (blk_cell (blk_alloc BK172.out _) 4).trans rfl, (blk_cell (blk_alloc BK161.out _) 0).trans rfl, (blk_cell (blk_alloc BK161.out _) 1).trans rfl, (blk_cell (blk_alloc BK161.out _) 2).trans rfl, (blk_cell (blk_alloc BK161.out _) 3).trans rfl, (blk_cell (blk_alloc BK161.out _) 4).trans rfl, (blk_cell (blk_alloc BK161.out _) 5).trans rfl⟩ (fun hHeld => ?_)
                  clear hK K
                  refine nm (some 133) ?_
                  refine on HT_ 20 (some 134) (mk 23 2097151) fun K hK => ?_
                  refine Kd.R_append_step k49 (w0 := w) w.heap.size (by rfl) (.tmp 115) (.tmp 133) 50 49 (.agg #[(.string ⟨#[]⟩), (.int .i64 0), (.string ⟨#[]⟩), (.string ⟨#[]⟩), (.int .i64 0)]) 64 rfl Try.underlying50 info49 rfl (by decide) (by omega) u173002 x173002_5 (⟨t181, wrap64 (1 + (Int.tmod (wrap64 (Int.tdiv t182 3)) 3)), t183, t184, 0⟩ : S49) [.string t181, .int .i64 (wrap64 (1 + (Int.tmod (wrap64 (Int.tdiv t182 3)) 3))), .string t183, .string t184, .int .i64 0] (fun _ => True) (fun _ => False) rfl rfl ?aP (fun _ hk => hk.elim) ?aF ?aO ?aB ?aS ?aL ?_
                  (case aP => exact k49_mkM _ _ _ (⟨t181, wrap64 (1 + (Int.tmod (wrap64 (Int.tdiv t182 3)) 3)), t183, t184, 0⟩ : S49))
                  (case aB => exact bel)
                  (case aF => exact (fun _ _ => trivial))
                  (case aO => exact (kR HO_173002))
                  (case aS => exact (below_size bel))
                  (case aL => have := LMc72.out; omega)
                  intro v186 w80 ho hb hg hat
                  rw [← Ny185.out] at ho
                  have HO187 := Aside0.mk ho
                  replace HO_164000 := Aside0.mk (Kd.S_over' (kS HO_164000) (Kd.R_typed (kR HO_173002)) (by decide) hg)
                  replace HO_164001 := Aside0.mk (Kd.S_after (ok := (fun k_ => some k_ ≠ (u173001 : Value).ownBlock ∧ k_ ≠ gb172)) (by (with_reducible repeat (first | apply Kd.S_alloc | apply Kd.S_drewN | apply Kd.S_drew)); exact Kd.S_mono HO_164001.out (fun _ hk => ⟨⟨hk.1, hk.2.2⟩, hk.2.1⟩)) hg hat)
                  replace HO_173001 := Aside0.mk (Kd.R_over' (kR HO_173001) (Kd.R_typed (kR HO_173002)) (by decide) hg)
                  replace BK161 := Aside0.mk (blk_grown (bkq BK161) hg (Kd.R_ne HO_173002.out BK161.out (by decide)))
                  replace BK162 := Aside0.mk (blk_grown (bkq BK162) hg (Kd.R_ne HO_173002.out BK162.out (by decide)))
                  replace BK163 := Aside0.mk (blk_grown (bkq BK163) hg (Kd.R_ne HO_173002.out BK163.out (by decide)))
                  replace BK172 := Aside0.mk (blk_grown (bkq BK172) hg (Kd.R_ne HO_173002.out BK172.out (by decide)))
                  replace HB := Aside0.mk (hb)
                  clear HO_173002
                  clear ho hb hg hat
                  obtain ⟨Ao81, co81, eo81⟩ := Kd.R_slice HO187.out
                  (first | subst eo81 | (injection eo81 with f1_ f2_ f3_; have f4_ := f1_.symm; have f5_ := f3_.symm; clear f1_ f2_ f3_; subst f4_; subst f5_))
                  refine hK.out _ _ (hs5 BK172 (he6 BK161)) (fun hHeld => ?_)
                  clear hK K
                  refine nm (some 134) ?_
                  refine pu HT_ 21 (some 135) (mk 23 4194303) ?_
                  refine la HT_ 22 (none) (mk 23 8388607) fun K hK => ?_
                  have hs82 : w80.cell? ⟨gb172, 2, none⟩ = some (u173002) := (blk_cell BK172.out 2).trans rfl
                  have hfs82 := blk_frozen BK172.out 2
                  have hns82_0 := NB161_172.out
                  have hns82_1 := NB162_172.out
                  have hns82_2 := NB163_172.out
                  have hms82_0 := NB172_161.out
                  have hms82_1 := NB172_162.out
                  have hms82_2 := NB172_163.out
                  refine skip_ (w1 := ?_) (by rfl) rfl ?_ ?_
                  rotate_left
                  ·go_simp
                   rfl
                  refine hK.out _ _ ?_
                  clear hK K
                  refine done_ (done_of HT_.out (by kernel_rfl)) ?_
                  try go_wp2
                  go_roundg kj48
                  case measure => have := HK1.out; have := HK2.out; have := HJ26.out; have := HJ36.out; have := HK5.out; have := HJ48.out; omega
                  case rel => exact ⟨(wrap64 (x10_5 + 1)), (y185), (.slice Ao81 y185.length co81), (by first | rfl | (simp; done) | (simp [*]; done)), H', ⟨by have := HK1.out; have := HK2.out; have := HJ26.out; have := HJ36.out; have := HK5.out; have := HJ48.out; omega⟩, ⟨by (with_reducible repeat (first | apply Kd.S_alloc | apply Kd.S_drewN | apply Kd.S_drew)); exact Kd.S_mono (Kd.S_far (p := ⟨gb172, 2, none⟩) (Kd.S_types HO_164000.out BK172.out (by decide)) (fun _ hk => hk.2) (.slice Ao81 y185.length co81)) (fun _ hk => trivial)⟩, ⟨by (with_reducible repeat (first | apply Kd.S_alloc | apply Kd.S_drewN | apply Kd.S_drew)); exact Kd.S_mono (Kd.S_far (p := ⟨gb172, 2, none⟩) (Kd.S_mono HO_164001.out (fun k_ hk => (⟨hk, hk.1.2⟩ : _ ∧ k_ ≠ gb172))) (fun _ hk => hk.2) (.slice Ao81 y185.length co81)) (fun _ hk => ⟨hk.1.1.1, ⟨hk.1.2, hk.1.1.2⟩⟩)⟩, ⟨by (with_reducible repeat (first | apply Kd.R_alloc | apply Kd.R_drewN | apply Kd.R_drew)); exact Kd.R_mono (Kd.R_far (p := ⟨gb172, 2, none⟩) (Kd.R_types HO_173001.out BK172.out (by decide)) (fun _ hk => hk.2) (.slice Ao81 y185.length co81)) (fun _ hk => trivial)⟩, ⟨by (with_reducible repeat (first | apply Kd.R_alloc | apply Kd.R_drewN | apply Kd.R_drew)); exact Kd.R_mono (Kd.R_far (p := ⟨gb172, 2, none⟩) (Kd.R_types HO187.out BK172.out (by decide)) (fun _ hk => hk.2) (.slice Ao81 y185.length co81)) (fun _ hk => trivial)⟩, ⟨bkq BK161⟩, ⟨bkq BK162⟩, ⟨bkq BK163⟩, ⟨bkp BK172⟩, ⟨by repeat (first | (with_reducible first | exact HB.out | apply below_alloc | apply pw_below_drewN | apply below_drew1 | refine below_set ?_ GE161.out | refine below_set ?_ GE162.out | refine below_set ?_ GE163.out | refine below_set ?_ GE172.out) | exact HB.out)⟩⟩
                 ·rw [if_neg c72] at H
                  exact absurd H (by simp)
                ·replace c66 := Bool.eq_false_iff.mpr c66
                 subst c66
                 have H1 : (maquettelaw07_Shape_Config.l2 kj48 (wrap64 (Int.tmod a0_0 8)) x7_2 (wrap64 (x10_5 + 1)) a0_0 l0_1 l0_2 l0_3 l0_4 l0_5 x164000_1 x164001_2 t171 x173001_36 x173002_5 0) = some (r1, r2) := by rw [if_neg (show ¬ (false = true) by decide)] at H; exact H
                 clear H
                 have H := H1
                 clear H1
                 have H' := Aside0.mk H
                 clear H
                 go_wp2
                 go_roundg kj48
                 case measure => have := HK1.out; have := HK2.out; have := HJ26.out; have := HJ36.out; have := HK5.out; have := HJ48.out; omega
                 case rel => exact ⟨(wrap64 (x10_5 + 1)), (x173002_5), (u173002), (by first | rfl | (simp; done) | (simp [*]; done)), H', ⟨by have := HK1.out; have := HK2.out; have := HJ26.out; have := HJ36.out; have := HK5.out; have := HJ48.out; omega⟩, ⟨by (with_reducible repeat (first | apply Kd.S_alloc | apply Kd.S_drewN | apply Kd.S_drew)); exact HO_164000.out⟩, ⟨by (with_reducible repeat (first | apply Kd.S_alloc | apply Kd.S_drewN | apply Kd.S_drew)); exact HO_164001.out⟩, ⟨by (with_reducible repeat (first | apply Kd.R_alloc | apply Kd.R_drewN | apply Kd.R_drew)); exact HO_173001.out⟩, ⟨by (with_reducible repeat (first | apply Kd.R_alloc | apply Kd.R_drewN | apply Kd.R_drew)); exact HO_173002.out⟩, ⟨bkq BK161⟩, ⟨bkq BK162⟩, ⟨bkq BK163⟩, ⟨bkq BK172⟩, ⟨by repeat (first | (with_reducible first | exact HB.out | apply below_alloc | apply pw_below_drewN | apply below_drew1 | refine below_set ?_ GE161.out | refine below_set ?_ GE162.out | refine below_set ?_ GE163.out | refine below_set ?_ GE172.out) | exact HB.out)⟩⟩
             ·rw [if_neg c46] at H
              have c46b0 := decide_eq_false c46
              clear c46
              replace H := Option.bind_eq_some_iff.mp H
              obtain ⟨t188, A830, H⟩ := H
              replace H : (if (Int.tmod t188 5) = 4 then (if (x173002_5.length : Int) > 0 then ((maquettelaw05_Make.f k5 ((t188) % 256)).bind fun bt189 => (if (x173002_5.length : Int) = 0 then (none) else (if 0 ≤ (Int.tmod (wrap64 (Int.tdiv t188 8)) (x173002_5.length : Int)) then (if (Int.tmod (wrap64 (Int.tdiv t188 8)) (x173002_5.length : Int)) < (x173002_5.length : Int) then (if ([] : List (S62)).length < 3518437208883 then (if x164001_2.length < 1466015503701 then (maquettelaw07_Shape_Config.l1 k5 (wrap64 (Int.tmod a0_0 8)) (wrap64 (x7_2 + 1)) a0_0 l0_1 l0_2 l0_3 l0_4 l0_5 x164000_1 (x164001_2 ++ [(⟨t171, x173001_36, x173002_5, (([] : List (S62)) ++ [(⟨(⟨bt189.1, bt189.2⟩ : S36), (rd_T49 x173002_5 (Int.tmod (wrap64 (Int.tdiv t188 8)) (x173002_5.length : Int))).f0, 0⟩ : S62)]), 0⟩ : S53)])) else (none)) else (none)) else (none)) else (none)))) else (if x164001_2.length < 1466015503701 then (maquettelaw07_Shape_Config.l1 k5 (wrap64 (Int.tmod a0_0 8)) (wrap64 (x7_2 + 1)) a0_0 l0_1 l0_2 l0_3 l0_4 l0_5 x164000_1 (x164001_2 ++ [(⟨t171, x173001_36, x173002_5, ([] : List (S62)), 0⟩ : S53)])) else (none))) else (if x164001_2.length < 1466015503701 then (maquettelaw07_Shape_Config.l1 k5 (wrap64 (Int.tmod a0_0 8)) (wrap64 (x7_2 + 1)) a0_0 l0_1 l0_2 l0_3 l0_4 l0_5 x164000_1 (x164001_2 ++ [(⟨t171, x173001_36, x173002_5, ([] : List (S62)), 0⟩ : S53)])) else (none))) = some (r1, r2) := H
              have A83 := Aside0.mk A830
              clear A830
              by_cases c84 : (Int.tmod t188 5) = 4
              ·rw [if_pos c84] at H
               have c84b0 : ((Int.tmod t188 5) == 4) = true := beq_iff_eq.mpr c84
               have c84b1 : ((Int.tmod t188 5) != 4) = false := bne_eq_false_iff_eq.mpr c84
               clear c84
               by_cases c85 : (x173002_5.length : Int) > 0
               ·rw [if_pos c85] at H
                have c85b0 : decide (0 < (x173002_5.length : Int)) = true := decide_eq_true c85
                have c85b1 : decide (0 < x173002_5.length) = true := decide_eq_true (by omega)
                clear c85
                replace H := Option.bind_eq_some_iff.mp H
                obtain ⟨⟨t189, t190⟩, A860, H⟩ := H
                replace H : (if (x173002_5.length : Int) = 0 then (none) else (if 0 ≤ (Int.tmod (wrap64 (Int.tdiv t188 8)) (x173002_5.length : Int)) then (if (Int.tmod (wrap64 (Int.tdiv t188 8)) (x173002_5.length : Int)) < (x173002_5.length : Int) then (if ([] : List (S62)).length < 3518437208883 then (if x164001_2.length < 1466015503701 then (maquettelaw07_Shape_Config.l1 k5 (wrap64 (Int.tmod a0_0 8)) (wrap64 (x7_2 + 1)) a0_0 l0_1 l0_2 l0_3 l0_4 l0_5 x164000_1 (x164001_2 ++ [(⟨t171, x173001_36, x173002_5, (([] : List (S62)) ++ [(⟨(⟨t189, t190⟩ : S36), (rd_T49 x173002_5 (Int.tmod (wrap64 (Int.tdiv t188 8)) (x173002_5.length : Int))).f0, 0⟩ : S62)]), 0⟩ : S53)])) else (none)) else (none)) else (none)) else (none))) = some (r1, r2) := H
                have A86 := Aside0.mk A860
                clear A860
                by_cases c87 : (x173002_5.length : Int) = 0
                ·rw [if_pos c87] at H
                 exact absurd H (by simp)
                ·rw [if_neg c87] at H
                 have c87b0 : ((x173002_5.length : Int) == 0) = false := beq_eq_false_iff_ne.mpr c87
                 have c87b1 : ((x173002_5.length : Int) != 0) = true := bne_iff_ne.mpr c87
                 have c87b2 : ¬ (x173002_5 = []) := fun h_ => c87 (by rw [h_]; rfl)
                 obtain ⟨ji88, hji88⟩ : ∃ j_ : Int, (Int.tmod (wrap64 (Int.tdiv t188 8)) (x173002_5.length : Int)) = j_ := ⟨_, rfl⟩
                 replace H : (if 0 ≤ (ji88) then (if (ji88) < (x173002_5.length : Int) then (if ([] : List (S62)).length < 3518437208883 then (if x164001_2.length < 1466015503701 then (maquettelaw07_Shape_Config.l1 k5 (wrap64 (Int.tmod a0_0 8)) (wrap64 (x7_2 + 1)) a0_0 l0_1 l0_2 l0_3 l0_4 l0_5 x164000_1 (x164001_2 ++ [(⟨t171, x173001_36, x173002_5, (([] : List (S62)) ++ [(⟨(⟨t189, t190⟩ : S36), (rd_T49 x173002_5 (ji88)).f0, 0⟩ : S62)]), 0⟩ : S53)])) else (none)) else (none)) else (none)) else (none)) = some (r1, r2) := by first | (rw [hji88] at H; exact H) | (simp only [hji88] at H ⊢; exact H)
                 (try rw [hji88] at A83)
                 (try rw [hji88] at A86)
                 by_cases c89 : 0 ≤ (ji88)
                 ·rw [if_pos c89] at H
                  have c89b0 := decide_eq_true c89
                  clear c89
                  by_cases c90 : (ji88) < (x173002_5.length : Int)
                  ·rw [if_pos c90] at H
                   have c90b0 := decide_eq_true c90
                   clear c90
                   by_cases c91 : ([] : List (S62)).length < 3518437208883
                   ·rw [if_pos c91] at H
                    have LMc91 := Aside0.mk c91
                    clear c91
                    obtain ⟨y192, hy192⟩ : ∃ y_ : List (S62), y_ = (([] : List (S62)) ++ [(⟨(⟨t189, t190⟩ : S36), (rd_T49 x173002_5 (ji88)).f0, 0⟩ : S62)]) := ⟨_, rfl⟩
                    replace H : (if x164001_2.length < 1466015503701 then (maquettelaw07_Shape_Config.l1 k5 (wrap64 (Int.tmod a0_0 8)) (wrap64 (x7_2 + 1)) a0_0 l0_1 l0_2 l0_3 l0_4 l0_5 x164000_1 (x164001_2 ++ [(⟨t171, x173001_36, x173002_5, y192, 0⟩ : S53)])) else (none)) = some (r1, r2) := by first | (rw [hy192]; with_reducible exact H) | (have H2_ := (Option.bind_some _ _).symm.trans H; rw [hy192]; with_reducible exact H2_) | (have H2_ := (Option.bind_some _ _).symm.trans H; with_reducible exact H2_) | with_reducible exact H | (rw [hy192]; exact H) | exact H
                    have Ny192 := Aside0.mk hy192
                    clear hy192
                    by_cases c92 : x164001_2.length < 1466015503701
                    ·rw [if_pos c92] at H
                     have LMc92 := Aside0.mk c92
                     clear c92
                     obtain ⟨y195, hy195⟩ : ∃ y_ : List (S53), y_ = (x164001_2 ++ [(⟨t171, x173001_36, x173002_5, y192, 0⟩ : S53)]) := ⟨_, rfl⟩
                     replace H : (maquettelaw07_Shape_Config.l1 k5 (wrap64 (Int.tmod a0_0 8)) (wrap64 (x7_2 + 1)) a0_0 l0_1 l0_2 l0_3 l0_4 l0_5 x164000_1 y195) = some (r1, r2) := by first | (rw [hy195]; with_reducible exact H) | (have H2_ := (Option.bind_some _ _).symm.trans H; rw [hy195]; with_reducible exact H2_) | (have H2_ := (Option.bind_some _ _).symm.trans H; with_reducible exact H2_) | with_reducible exact H | (rw [hy195]; exact H) | exact H
                     have Ny195 := Aside0.mk hy195
                     clear hy195
                     have H' := Aside0.mk H
                     clear H
                     have hnb93 := NB161_162.out
                     have hnc93 := NB162_161.out
                     have hnb94 := NB161_163.out
                     have hnc94 := NB163_161.out
                     have hnb95 := NB161_172.out
                     have hnc95 := NB172_161.out
                     obtain ⟨hcz96_0, hcz96_1, hcz96_2, hcz96_3, hcz96_4, hcz96_5, hfz96_0, hfz96_1, hfz96_2, hfz96_3, hfz96_4, hfz96_5⟩ := bc6 BK161
                     try go_wp2_with (first | ((with_reducible refine gate_dst (N := 139) rfl ?_); refine gl (some 139) Try.func10 #[.slice A0_5 l0_5.length c0_5, .int .i64 x7_2] ?_; (with_reducible refine (maquettelaw07_number.calls _ _ l0_5 x7_2 t188 _ ?side1 ?side2 A83.out).mono ?_); (case side1 => exact kcb HR0_5); (case side2 => exact HC0_5.out); rintro e w' ⟨rfl, ⟨nd, rfl⟩⟩; refine ⟨_, rfl, ?_⟩; (try (rw [drewN_self wr]; generalize hq_ : World.drewN wr _ = wr; replace HO_164000 := dS hq_ HO_164000; replace HO_164001 := dS hq_ HO_164001; replace HO_173001 := dR hq_ HO_173001; replace HO_173002 := dR hq_ HO_173002; replace BK161 := bkd hq_ BK161; replace BK162 := bkd hq_ BK162; replace BK163 := bkd hq_ BK163; replace BK172 := bkd hq_ BK172; replace HB := bld (w := w) hq_; clear hq_)); have hnb97 := NB172_162.out; have hnc97 := NB162_172.out; have hnb98 := NB172_163.out; have hnc98 := NB163_172.out; obtain ⟨hcz99_0, hcz99_1, hcz99_2, hcz99_3, hcz99_4, hfz99_0, hfz99_1, hfz99_2, hfz99_3, hfz99_4⟩ := bc5 BK172; obtain ⟨Ao100, co100, eo100⟩ := Kd.R_slice HO_173002.out; subst eo100))
                     replace HO_164000 := Aside0.mk (Kd.S_drew HO_164000.out)
                     replace HO_164001 := Aside0.mk (Kd.S_drew HO_164001.out)
                     replace HO_173001 := Aside0.mk (Kd.R_drew HO_173001.out)
                     replace HO_173002 := Aside0.mk (Kd.R_drew HO_173002.out)
                     replace BK161 := Aside0.mk (blk_drew BK161.out)
                     replace BK162 := Aside0.mk (blk_drew BK162.out)
                     replace BK163 := Aside0.mk (blk_drew BK163.out)
                     replace BK172 := Aside0.mk (blk_drew BK172.out)
                     replace HB := Aside0.mk (below_drew1 HB.out)
                     have p191 : 0 ≤ ((ji88) : Int) := of_decide_eq_true (by first | (with_reducible assumption) | assumption)
                     have q191 : (ji88) < (x173002_5.length : Int) := of_decide_eq_true (by first | (with_reducible assumption) | assumption)
                     obtain ⟨ad191, e191, hx191_0, hx191_1, hx191_2, hx191_3, hx191_4⟩ := at_T49 (Kd.R_reads' HO_173002.out).2.2 (ji88) p191 q191
                     cases e191
                     replace p191 := eq_true p191
                     replace q191 := eq_true q191
                     refine start_ (n := 21) (S := fun w' => CS5 w' gb172 (.string t171) (u173001) (.slice (some ad191) x173002_5.length co100) (.slice none 0 0) (.int .i64 0) (w'.cell? (ad191.add (((ji88)).toNat * 5)) = some (.string ((rd_T49 x173002_5 (ji88)).f0)) ∧ w'.cell? ⟨(ad191.add (((ji88)).toNat * 5)).block, (ad191.add (((ji88)).toNat * 5)).off + 1, none⟩ = some (.int .i64 ((rd_T49 x173002_5 (ji88)).f1)) ∧ w'.cell? ⟨(ad191.add (((ji88)).toNat * 5)).block, (ad191.add (((ji88)).toNat * 5)).off + 2, none⟩ = some (.string ((rd_T49 x173002_5 (ji88)).f2)) ∧ w'.cell? ⟨(ad191.add (((ji88)).toNat * 5)).block, (ad191.add (((ji88)).toNat * 5)).off + 3, none⟩ = some (.string ((rd_T49 x173002_5 (ji88)).f3)) ∧ w'.cell? ⟨(ad191.add (((ji88)).toNat * 5)).block, (ad191.add (((ji88)).toNat * 5)).off + 4, none⟩ = some (.int .i64 ((rd_T49 x173002_5 (ji88)).f4)))) (ds := [18, 20]) #[false, false, false, false, false, false, false, false, false, false, false, false, false, false, false, false, false, false, false, false, false] (by kernel_rfl) rfl rfl ⟨(blk_cell BK172.out 0).trans rfl, (blk_cell BK172.out 1).trans rfl, (blk_cell BK172.out 2).trans rfl, (blk_cell BK172.out 3).trans rfl, (blk_cell BK172.out 4).trans rfl, hx191_0, hx191_1, hx191_2, hx191_3, hx191_4⟩ (fun hHeld => ?_); refine with_tabW maquettelaw07_Shape_Config.tab25 maquettelaw07_Shape_Config.bits25 (fun HT_ HW_ => ?_)
                     generalize wr.drew = w101 at HO_164000 HO_164001 HO_173001 HO_173002 BK161 BK162 BK163 BK172 HB hx191_0 hx191_1 hx191_2 hx191_3 hx191_4 hHeld ⊢
                     refine pu HT_ 0 (some 149) (mk 21 1) ?_
                     refine pu HT_ 2 (some 151) (mk 21 5) ?_
                     refine pu HT_ 3 (some 152) (mk 21 13) ?_
                     refine pu HT_ 5 (some 154) (mk 21 45) ?_
                     refine pu HT_ 7 (some 156) (mk 21 173) ?_
                     refine pu HT_ 8 (some 157) (mk 21 429) ?_
                     refine pu HT_ 9 (some 158) (mk 21 941) ?_
                     refine tk HT_ HW_ 1 (some 150) (mk 21 943) hHeld ?_
                     refine tk HT_ HW_ 6 (some 155) (mk 21 1007) hHeld ?_
                     refine tk HT_ HW_ 10 (some 159) (mk 21 2031) hHeld ?_
                     refine pu HT_ 11 (some 160) (mk 21 4079) ?_
                     refine pu HT_ 12 (some 161) (mk 21 8175) ?_
                     refine pu HT_ 13 (some 162) (mk 21 16367) ?_
                     refine pu HT_ 14 (some 163) (mk 21 32751) ?_
                     refine tk HT_ HW_ 15 (some 164) (mk 21 65519) hHeld ?_
                     refine on HT_ 4 (some 153) (mk 21 65535) fun K hK => ?_
                     refine go1 Try.func11 #[.int .u8 ((t188) % 256)] ?_
                     with_reducible refine (maquettelaw05_Make.calls k5 ((t188) % 256) t189 t190 _ A86.out).mono ?_
                     rintro e w102 ⟨rfl, hb⟩
                     have HS5_ := (hb.cell (World.block_lt_of_cell? _ _ (hHeld.2.2.2.2.2.1))).trans (hHeld.2.2.2.2.2.1)
                     have HS6_ := (hb.cell (World.block_lt_of_cell? _ _ (hHeld.2.2.2.2.2.2.1))).trans (hHeld.2.2.2.2.2.2.1)
                     have HS7_ := (hb.cell (World.block_lt_of_cell? _ _ (hHeld.2.2.2.2.2.2.2.1))).trans (hHeld.2.2.2.2.2.2.2.1)
                     have HS8_ := (hb.cell (World.block_lt_of_cell? _ _ (hHeld.2.2.2.2.2.2.2.2.1))).trans (hHeld.2.2.2.2.2.2.2.2.1)
                     have HS9_ := (hb.cell (World.block_lt_of_cell? _ _ (hHeld.2.2.2.2.2.2.2.2.2))).trans (hHeld.2.2.2.2.2.2.2.2.2)
                     refine ⟨_, rfl, ?_⟩
                     replace HO_164000 := Aside0.mk (Kd.S_below (kS HO_164000) hb)
                     replace HO_164001 := Aside0.mk (Kd.S_below (kS HO_164001) hb)
                     replace HO_173001 := Aside0.mk (Kd.R_below (kR HO_173001) hb)
                     replace HO_173002 := Aside0.mk (Kd.R_below (kR HO_173002) hb)
                     replace BK161 := bkb BK161 hb
                     replace BK162 := bkb BK162 hb
                     replace BK163 := bkb BK163 hb
                     replace BK172 := bkb BK172 hb
                     replace HB := bst hb
                     (try clear hb)
                     (try clear hb2)
                     (try clear hk)
                     (try clear hi)
                     refine hK.out _ _ ⟨(blk_cell BK172.out 0).trans rfl, (blk_cell BK172.out 1).trans rfl, (blk_cell BK172.out 2).trans rfl, (blk_cell BK172.out 3).trans rfl, (blk_cell BK172.out 4).trans rfl, HS5_, HS6_, HS7_, HS8_, HS9_⟩ (fun hHeld => ?_)
                     clear hK K
                     refine nm (some 153) ?_
                     refine pu HT_ 16 (some 165) (mk 21 131071) ?_
                     refine on HT_ 17 (some 166) (mk 21 262143) fun K hK => ?_
                     refine value_ (w1 := ?_) (v := ?_) (by rfl) rfl ?_ ?_
                     rotate_left 2
                     ·go_simp
                      constructor
                      ·rfl
                      ·rfl
                     refine hK.out _ _ ⟨(blk_cell (blk_alloc BK172.out _) 0).trans rfl, (blk_cell (blk_alloc BK172.out _) 1).trans rfl, (blk_cell (blk_alloc BK172.out _) 2).trans rfl, (blk_cell (blk_alloc BK172.out _) 3).trans rfl, (blk_cell (blk_alloc BK172.out _) 4).trans rfl, (World.cell?_alloc_lt _ _ _ (World.block_lt_of_cell? _ _ (hHeld.2.2.2.2.2.1))).trans (hHeld.2.2.2.2.2.1), (World.cell?_alloc_lt _ _ _ (World.block_lt_of_cell? _ _ (hHeld.2.2.2.2.2.2.1))).trans (hHeld.2.2.2.2.2.2.1), (World.cell?_alloc_lt _ _ _ (World.block_lt_of_cell? _ _ (hHeld.2.2.2.2.2.2.2.1))).trans (hHeld.2.2.2.2.2.2.2.1), (World.cell?_alloc_lt _ _ _ (World.block_lt_of_cell? _ _ (hHeld.2.2.2.2.2.2.2.2.1))).trans (hHeld.2.2.2.2.2.2.2.2.1), (World.cell?_alloc_lt _ _ _ (World.block_lt_of_cell? _ _ (hHeld.2.2.2.2.2.2.2.2.2))).trans (hHeld.2.2.2.2.2.2.2.2.2)⟩ (fun hHeld => ?_)
                     clear hK K
                     refine nm (some 166) ?_
                     refine la HT_ 18 (some 167) (mk 21 524287) fun K hK => ?_
                     refine Kd.R_append_step k62 (w0 := w) w.heap.size (by rfl) (.tmp 150) (.tmp 166) 51 62 (.agg #[(.int .u32 0), (.int .i64 0), (.string ⟨#[]⟩), (.int .i64 0)]) 40 rfl Try.underlying51 info62 rfl (by decide) (by omega) (.slice none 0 0) ([] : List (S62)) (⟨(⟨t189, t190⟩ : S36), (rd_T49 x173002_5 (ji88)).f0, 0⟩ : S62) [.int .u32 t189, .int .i64 t190, .string ((rd_T49 x173002_5 (ji88)).f0), .int .i64 0] (fun _ => True) (fun _ => False) rfl rfl ?aP (fun _ hk => hk.elim) ?aF ?aO ?aB ?aS ?aL ?_
                     (case aP => exact k62_mkM _ _ _ (⟨(⟨t189, t190⟩ : S36), (rd_T49 x173002_5 (ji88)).f0, 0⟩ : S62))
                     (case aB => exact bel)
                     (case aF => exact (fun _ _ => trivial))
                     (case aO => exact ((Kd.R_nil _ _ _ _ (fun _ => True))))
                     (case aS => exact (below_size bel))
                     (case aL => have := LMc91.out; omega)
                     intro v193 w103 ho hb hg hat
                     rw [← Ny192.out] at ho
                     have HO194 := Aside0.mk ho
                     replace HO_164000 := Aside0.mk (Kd.S_grown (kS HO_164000) hg (fun _ _ => by simp [Value.ownBlock]))
                     replace HO_164001 := Aside0.mk (Kd.S_after (Kd.S_apart_nil (kS HO_164001)) hg hat)
                     replace HO_173001 := Aside0.mk (Kd.R_grown (kR HO_173001) hg (fun _ _ => by simp [Value.ownBlock]))
                     replace HO_173002 := Aside0.mk (Kd.R_grown (kR HO_173002) hg (fun _ _ => by simp [Value.ownBlock]))
                     replace BK161 := Aside0.mk (blk_grown (bkq BK161) hg (by simp [Value.ownBlock]))
                     replace BK162 := Aside0.mk (blk_grown (bkq BK162) hg (by simp [Value.ownBlock]))
                     replace BK163 := Aside0.mk (blk_grown (bkq BK163) hg (by simp [Value.ownBlock]))
                     replace BK172 := Aside0.mk (blk_grown (bkq BK172) hg (by simp [Value.ownBlock]))
                     replace HB := Aside0.mk (hb)
                     clear ho hb hg hat
                     obtain ⟨Ao104, co104, eo104⟩ := Kd.R_slice HO194.out
                     (first | subst eo104 | (injection eo104 with f1_ f2_ f3_; have f4_ := f1_.symm; have f5_ := f3_.symm; clear f1_ f2_ f3_; subst f4_; subst f5_))
                     refine hK.out _ _ ?_
                     clear hK K
                     refine nm (some 167) ?_
                     refine pu HT_ 19 (some 168) (mk 21 1048575) ?_
                     refine la HT_ 20 (none) (mk 21 2097151) fun K hK => ?_
                     have hs105 : w103.cell? ⟨gb172, 3, none⟩ = some (.slice none 0 0) := (blk_cell BK172.out 3).trans rfl
                     have hfs105 := blk_frozen BK172.out 3
                     have hns105_0 := NB161_172.out
                     have hns105_1 := NB162_172.out
                     have hns105_2 := NB163_172.out
                     have hms105_0 := NB172_161.out
                     have hms105_1 := NB172_162.out
                     have hms105_2 := NB172_163.out
                     refine skip_ (w1 := ?_) (by rfl) rfl ?_ ?_
                     rotate_left
                     ·go_simp
                      rfl
                     refine hK.out _ _ ?_
                     clear hK K
                     refine done_ (done_of HT_.out (by kernel_rfl)) ?_
                     have n0_ : Aside0 (Kd.S k57 57 (w103.setCell ⟨gb172, 3, none⟩ (.slice Ao104 y192.length co104)) w.heap.size (fun _ => True) u164000 x164000_1) := ⟨by (with_reducible repeat (first | apply Kd.S_alloc | apply Kd.S_drewN | apply Kd.S_drew)); exact Kd.S_mono (Kd.S_far (p := ⟨gb172, 3, none⟩) (Kd.S_types HO_164000.out BK172.out (by decide)) (fun _ hk => hk.2) (.slice Ao104 y192.length co104)) (fun _ hk => trivial)⟩
                     have n1_ : Aside0 (Kd.S k53 53 (w103.setCell ⟨gb172, 3, none⟩ (.slice Ao104 y192.length co104)) w.heap.size (fun k_ => some k_ ≠ (u173001 : Value).ownBlock ∧ some k_ ≠ (.slice (some ad191) x173002_5.length co100 : Value).ownBlock ∧ some k_ ≠ (.slice Ao104 y192.length co104 : Value).ownBlock ∧ k_ ≠ gb172) u164001 x164001_2) := ⟨by (with_reducible repeat (first | apply Kd.S_alloc | apply Kd.S_drewN | apply Kd.S_drew)); exact Kd.S_mono (Kd.S_far (p := ⟨gb172, 3, none⟩) (Kd.S_mono HO_164001.out (fun k_ hk => (⟨hk, hk.1.2.2⟩ : _ ∧ k_ ≠ gb172))) (fun _ hk => hk.2) (.slice Ao104 y192.length co104)) (fun _ hk => ⟨hk.1.1.1, ⟨hk.1.1.2.1, ⟨hk.1.2, hk.1.1.2.2⟩⟩⟩)⟩
                     have n2_ : Aside0 (Kd.R k36 36 (w103.setCell ⟨gb172, 3, none⟩ (.slice Ao104 y192.length co104)) w.heap.size (fun _ => True) u173001 x173001_36) := ⟨by (with_reducible repeat (first | apply Kd.R_alloc | apply Kd.R_drewN | apply Kd.R_drew)); exact Kd.R_mono (Kd.R_far (p := ⟨gb172, 3, none⟩) (Kd.R_types HO_173001.out BK172.out (by decide)) (fun _ hk => hk.2) (.slice Ao104 y192.length co104)) (fun _ hk => trivial)⟩
                     have n3_ : Aside0 (Kd.R k49 49 (w103.setCell ⟨gb172, 3, none⟩ (.slice Ao104 y192.length co104)) w.heap.size (fun _ => True) (.slice (some ad191) x173002_5.length co100) x173002_5) := ⟨by (with_reducible repeat (first | apply Kd.R_alloc | apply Kd.R_drewN | apply Kd.R_drew)); exact Kd.R_mono (Kd.R_far (p := ⟨gb172, 3, none⟩) (Kd.R_types HO_173002.out BK172.out (by decide)) (fun _ hk => hk.2) (.slice Ao104 y192.length co104)) (fun _ hk => trivial)⟩
                     have n4_ : Aside0 (Kd.R k62 62 (w103.setCell ⟨gb172, 3, none⟩ (.slice Ao104 y192.length co104)) w.heap.size (fun _ => True) (.slice Ao104 y192.length co104) y192) := ⟨by (with_reducible repeat (first | apply Kd.R_alloc | apply Kd.R_drewN | apply Kd.R_drew)); exact Kd.R_mono (Kd.R_far (p := ⟨gb172, 3, none⟩) (Kd.R_types HO194.out BK172.out (by decide)) (fun _ hk => hk.2) (.slice Ao104 y192.length co104)) (fun _ hk => trivial)⟩
                     have n5_ : Aside0 ((w103.setCell ⟨gb172, 3, none⟩ (.slice Ao104 y192.length co104)).heap[gb161]? = some (.cells #[.int .u8 a0_0, .slice A0_1 l0_1.length c0_1, .slice A0_2 l0_2.length c0_2, .slice A0_3 l0_3.length c0_3, .slice A0_4 l0_4.length c0_4, .slice A0_5 l0_5.length c0_5] 25 (0, 0))) := ⟨bkq BK161⟩
                     have n6_ : Aside0 ((w103.setCell ⟨gb172, 3, none⟩ (.slice Ao104 y192.length co104)).heap[gb162]? = some (.cells #[.slice none 0 0, .slice none 0 0] 30 (0, 0))) := ⟨bkq BK162⟩
                     have n7_ : Aside0 ((w103.setCell ⟨gb172, 3, none⟩ (.slice Ao104 y192.length co104)).heap[gb163]? = some (.cells #[u164000, u164001] 30 (0, 0))) := ⟨bkq BK163⟩
                     have n8_ : Aside0 ((w103.setCell ⟨gb172, 3, none⟩ (.slice Ao104 y192.length co104)).heap[gb172]? = some (.cells #[.string t171, u173001, .slice (some ad191) x173002_5.length co100, .slice Ao104 y192.length co104, .int .i64 0] 53 (0, 0))) := ⟨bkp BK172⟩
                     have n9_ : Aside0 (Below w.heap.size w (w103.setCell ⟨gb172, 3, none⟩ (.slice Ao104 y192.length co104))) := ⟨by repeat (first | (with_reducible first | exact HB.out | apply below_alloc | apply pw_below_drewN | apply below_drew1 | refine below_set ?_ GE161.out | refine below_set ?_ GE162.out | refine below_set ?_ GE163.out | refine below_set ?_ GE172.out) | exact HB.out)⟩
                     (try clear HO_164000)
                     (try clear HO_164001)
                     (try clear HO_173001)
                     (try clear HO_173002)
                     (try clear HO194)
                     (try clear BK161)
                     (try clear BK162)
                     (try clear BK163)
                     (try clear BK172)
                     (try clear HB)
                     generalize (w103.setCell ⟨gb172, 3, none⟩ (.slice Ao104 y192.length co104)) = w106 at n0_ n1_ n2_ n3_ n4_ n5_ n6_ n7_ n8_ n9_ ⊢
                     have HO_164000 := n0_
                     have HO_164001 := n1_
                     have HO_173001 := n2_
                     have HO_173002 := n3_
                     have HO194 := n4_
                     have BK161 := n5_
                     have BK162 := n6_
                     have BK163 := n7_
                     have BK172 := n8_
                     have HB := n9_
                     clear n0_ n1_ n2_ n3_ n4_ n5_ n6_ n7_ n8_ n9_
                     have hnb107 := NB163_162.out
                     have hnc107 := NB162_163.out
                     obtain ⟨hcz108_0, hcz108_1, hfz108_0, hfz108_1⟩ := bc2 BK163
                     obtain ⟨hcz109_0, hcz109_1, hcz109_2, hcz109_3, hcz109_4, hfz109_0, hfz109_1, hfz109_2, hfz109_3, hfz109_4⟩ := bc5 BK172
                     obtain ⟨Ao111, co111, eo111⟩ := Kd.R_slice HO_173001.out
                     subst eo111
                     try go_wp2_with (first | ((with_reducible refine gate_builtin (b := .append) (xs := #[.tmp 170, .tmp 172]) rfl ?_); (try (refine gate_guard (by rfl) ?_; dsimp only)); at_builtin; refine Kd.S_append k53 (w0 := w) w.heap.size rfl (.tmp 170) (.tmp 172) 28 53 (.agg #[(.string ⟨#[]⟩), (.slice none 0 0), (.slice none 0 0), (.slice none 0 0), (.int .i64 0)]) 96 rfl Try.underlying28 info53 rfl (by decide) (by omega) u164001 x164001_2 (⟨t171, x173001_36, x173002_5, y192, 0⟩ : S53) [.string t171, .slice Ao111 x173001_36.length co111, .slice (some ad191) x173002_5.length co100, .slice Ao104 y192.length co104, .int .i64 0] (fun k_ => k_ ≠ gb172) (fun k_ => some k_ = (.slice Ao111 x173001_36.length co111 : Value).ownBlock ∨ some k_ = (.slice (some ad191) x173002_5.length co100 : Value).ownBlock ∨ some k_ = (.slice Ao104 y192.length co104 : Value).ownBlock) rfl rfl ?aP (fun k_ hk_ => hk_.elim (fun h_ => ((Kd.R_mono (ok' := fun k_ => ((fun k_ => k_ ≠ gb172)) k_ ∧ some k_ ≠ (u164001 : Value).ownBlock) (Kd.R_types (Kd.R_apart' (HO_173001.out) (Kd.S_typed HO_164001.out) (by decide)) BK172.out (by decide)) (fun k_ hk => ⟨hk.2, hk.1.2⟩))).1 k_ h_.symm) (fun h_ => h_.elim (fun h_ => ((Kd.R_mono (ok' := fun k_ => ((fun k_ => k_ ≠ gb172)) k_ ∧ some k_ ≠ (u164001 : Value).ownBlock) (Kd.R_types (Kd.R_apart' (HO_173002.out) (Kd.S_typed HO_164001.out) (by decide)) BK172.out (by decide)) (fun k_ hk => ⟨hk.2, hk.1.2⟩))).1 k_ h_.symm) (fun h_ => ((Kd.R_mono (ok' := fun k_ => ((fun k_ => k_ ≠ gb172)) k_ ∧ some k_ ≠ (u164001 : Value).ownBlock) (Kd.R_types (Kd.R_apart' (HO194.out) (Kd.S_typed HO_164001.out) (by decide)) BK172.out (by decide)) (fun k_ hk => ⟨hk.2, hk.1.2⟩))).1 k_ h_.symm))) ?aF ?aO ?aB ?aS ?aL ?_; (case aP => exact k53_mkM _ _ _ (⟨t171, x173001_36, x173002_5, y192, 0⟩ : S53) (Kd.R_mono (Kd.R_tight rfl (Kd.R_mono (ok' := fun k_ => ((fun k_ => k_ ≠ gb172)) k_ ∧ some k_ ≠ (u164001 : Value).ownBlock) (Kd.R_types (Kd.R_apart' (HO_173001.out) (Kd.S_typed HO_164001.out) (by decide)) BK172.out (by decide)) (fun k_ hk => ⟨hk.2, hk.1.2⟩))) (fun _ h_ => Or.inl h_)) (Kd.R_mono (Kd.R_tight rfl (Kd.R_mono (ok' := fun k_ => ((fun k_ => k_ ≠ gb172)) k_ ∧ some k_ ≠ (u164001 : Value).ownBlock) (Kd.R_types (Kd.R_apart' (HO_173002.out) (Kd.S_typed HO_164001.out) (by decide)) BK172.out (by decide)) (fun k_ hk => ⟨hk.2, hk.1.2⟩))) (fun _ h_ => Or.inr (Or.inl h_))) (Kd.R_mono (Kd.R_tight rfl (Kd.R_mono (ok' := fun k_ => ((fun k_ => k_ ≠ gb172)) k_ ∧ some k_ ≠ (u164001 : Value).ownBlock) (Kd.R_types (Kd.R_apart' (HO194.out) (Kd.S_typed HO_164001.out) (by decide)) BK172.out (by decide)) (fun k_ hk => ⟨hk.2, hk.1.2⟩))) (fun _ h_ => Or.inr (Or.inr (h_))))); (case aB => exact bel); (case aF => exact (fun k_ hk => Kd.freshB (bkq BK172) k_ hk)); (case aO => exact (by (with_reducible repeat (first | apply Kd.S_alloc | apply Kd.S_drewN | apply Kd.S_drew)); exact Kd.S_mono HO_164001.out (fun k_ hk => ⟨hk.2.2.2, fun e_ => e_.elim (fun h_ => hk.1 h_) (fun h_ => h_.elim (fun h_ => hk.2.1 h_) (fun h_ => hk.2.2.1 h_))⟩))); (case aS => exact (below_size bel)); (case aL => have := LMc92.out; omega); intro v196 w110 ho hb hg hat; rw [← Ny195.out] at ho; have HO197 := Aside0.mk ho; replace HO_164000 := Aside0.mk (Kd.S_over' (kS HO_164000) (Kd.S_typed (kS HO_164001)) (by decide) hg); replace BK161 := Aside0.mk (blk_grown (bkq BK161) hg (Kd.S_ne HO_164001.out BK161.out (by decide))); replace BK162 := Aside0.mk (blk_grown (bkq BK162) hg (Kd.S_ne HO_164001.out BK162.out (by decide))); replace BK163 := Aside0.mk (blk_grown (bkq BK163) hg (Kd.S_ne HO_164001.out BK163.out (by decide))); replace BK172 := Aside0.mk (blk_grown (bkq BK172) hg (Kd.S_away HO_164001.out (fun _ hk => hk.2.2.2))); replace HB := Aside0.mk (hb); clear HO_164001 HO194 HO_173001 HO_173002; clear ho hb hg hat; obtain ⟨Ao112, co112, eo112⟩ := Kd.S_slice HO197.out; subst eo112; obtain ⟨hcz113_0, hcz113_1, hfz113_0, hfz113_1⟩ := bc2 BK163))
                     go_roundg k5
                     case measure => have := HK1.out; have := HK2.out; have := HJ26.out; have := HJ36.out; have := HK5.out; omega
                     case rel => exact ⟨(wrap64 (x7_2 + 1)), (y195), (.slice Ao112 y195.length co112), (by first | rfl | (simp; done) | (simp [*]; done)), H', ⟨by have := HK1.out; have := HK2.out; have := HJ26.out; have := HJ36.out; have := HK5.out; omega⟩, ⟨by (with_reducible repeat (first | apply Kd.S_alloc | apply Kd.S_drewN | apply Kd.S_drew)); exact Kd.S_mono (Kd.S_far (p := ⟨gb163, 1, none⟩) (Kd.S_types HO_164000.out BK163.out (by decide)) (fun _ hk => hk.2) (.slice Ao112 y195.length co112)) (fun _ hk => trivial)⟩, ⟨by (with_reducible repeat (first | apply Kd.S_alloc | apply Kd.S_drewN | apply Kd.S_drew)); exact Kd.S_mono (Kd.S_far (p := ⟨gb163, 1, none⟩) (Kd.S_types HO197.out BK163.out (by decide)) (fun _ hk => hk.2) (.slice Ao112 y195.length co112)) (fun _ hk => trivial)⟩, ⟨bkq BK161⟩, ⟨bkq BK162⟩, ⟨bkp BK163⟩, ⟨by repeat (first | (with_reducible first | exact HB.out | apply below_alloc | apply pw_below_drewN | apply below_drew1 | refine below_set ?_ GE161.out | refine below_set ?_ GE162.out | refine below_set ?_ GE163.out | refine below_set ?_ GE172.out) | exact HB.out)⟩⟩
                    ·rw [if_neg c92] at H
                     exact absurd H (by simp)
                   ·rw [if_neg c91] at H
                    exact absurd H (by simp)
                  ·rw [if_neg c90] at H
                   exact absurd H (by simp)
                 ·rw [if_neg c89] at H
                  exact absurd H (by simp)
               ·rw [if_neg c85] at H
                have c85b0 : decide (0 < (x173002_5.length : Int)) = false := decide_eq_false c85
                have c85b1 : decide (0 < x173002_5.length) = false := decide_eq_false (by omega)
                clear c85
                by_cases c114 : x164001_2.length < 1466015503701
                ·rw [if_pos c114] at H
                 have LMc114 := Aside0.mk c114
                 clear c114
                 obtain ⟨y198, hy198⟩ : ∃ y_ : List (S53), y_ = (x164001_2 ++ [(⟨t171, x173001_36, x173002_5, ([] : List (S62)), 0⟩ : S53)]) := ⟨_, rfl⟩
                 replace H : (maquettelaw07_Shape_Config.l1 k5 (wrap64 (Int.tmod a0_0 8)) (wrap64 (x7_2 + 1)) a0_0 l0_1 l0_2 l0_3 l0_4 l0_5 x164000_1 y198) = some (r1, r2) := by first | (rw [hy198]; with_reducible exact H) | (have H2_ := (Option.bind_some _ _).symm.trans H; rw [hy198]; with_reducible exact H2_) | (have H2_ := (Option.bind_some _ _).symm.trans H; with_reducible exact H2_) | with_reducible exact H | (rw [hy198]; exact H) | exact H
                 have Ny198 := Aside0.mk hy198
                 clear hy198
                 have H' := Aside0.mk H
                 clear H
                 have hnb115 := NB161_162.out
                 have hnc115 := NB162_161.out
                 have hnb116 := NB161_163.out
                 have hnc116 := NB163_161.out
                 have hnb117 := NB161_172.out
                 have hnc117 := NB172_161.out
                 obtain ⟨hcz118_0, hcz118_1, hcz118_2, hcz118_3, hcz118_4, hcz118_5, hfz118_0, hfz118_1, hfz118_2, hfz118_3, hfz118_4, hfz118_5⟩ := bc6 BK161
                 go_wp2_with (first | ((with_reducible refine gate_dst (N := 139) rfl ?_); refine gl (some 139) Try.func10 #[.slice A0_5 l0_5.length c0_5, .int .i64 x7_2] ?_; (with_reducible refine (maquettelaw07_number.calls _ _ l0_5 x7_2 t188 _ ?side1 ?side2 A83.out).mono ?_); (case side1 => exact kcb HR0_5); (case side2 => exact HC0_5.out); rintro e w' ⟨rfl, ⟨nd, rfl⟩⟩; refine ⟨_, rfl, ?_⟩; (try (rw [drewN_self wr]; generalize hq_ : World.drewN wr _ = wr; replace HO_164000 := dS hq_ HO_164000; replace HO_164001 := dS hq_ HO_164001; replace HO_173001 := dR hq_ HO_173001; replace HO_173002 := dR hq_ HO_173002; replace BK161 := bkd hq_ BK161; replace BK162 := bkd hq_ BK162; replace BK163 := bkd hq_ BK163; replace BK172 := bkd hq_ BK172; replace HB := bld (w := w) hq_; clear hq_)); have hnb119 := NB172_162.out; have hnc119 := NB162_172.out; have hnb120 := NB172_163.out; have hnc120 := NB163_172.out; obtain ⟨hcz121_0, hcz121_1, hcz121_2, hcz121_3, hcz121_4, hfz121_0, hfz121_1, hfz121_2, hfz121_3, hfz121_4⟩ := bc5 BK172; obtain ⟨Ao122, co122, eo122⟩ := Kd.R_slice HO_173002.out; subst eo122; have hnb123 := NB163_162.out; have hnc123 := NB162_163.out; obtain ⟨hcz124_0, hcz124_1, hfz124_0, hfz124_1⟩ := bc2 BK163; obtain ⟨Ao126, co126, eo126⟩ := Kd.R_slice HO_173001.out; subst eo126) | ((with_reducible refine gate_builtin (b := .append) (xs := #[.tmp 170, .tmp 172]) rfl ?_); (try (refine gate_guard (by rfl) ?_; dsimp only)); at_builtin; refine Kd.S_append k53 (w0 := w) w.heap.size rfl (.tmp 170) (.tmp 172) 28 53 (.agg #[(.string ⟨#[]⟩), (.slice none 0 0), (.slice none 0 0), (.slice none 0 0), (.int .i64 0)]) 96 rfl Try.underlying28 info53 rfl (by decide) (by omega) u164001 x164001_2 (⟨t171, x173001_36, x173002_5, ([] : List (S62)), 0⟩ : S53) [.string t171, .slice Ao126 x173001_36.length co126, .slice Ao122 x173002_5.length co122, .slice none 0 0, .int .i64 0] (fun k_ => k_ ≠ gb172) (fun k_ => some k_ = (.slice Ao126 x173001_36.length co126 : Value).ownBlock ∨ some k_ = (.slice Ao122 x173002_5.length co122 : Value).ownBlock) rfl rfl ?aP (fun k_ hk_ => hk_.elim (fun h_ => ((Kd.R_mono (ok' := fun k_ => ((fun k_ => k_ ≠ gb172)) k_ ∧ some k_ ≠ (u164001 : Value).ownBlock) (Kd.R_types (Kd.R_apart' (HO_173001.out) (Kd.S_typed HO_164001.out) (by decide)) BK172.out (by decide)) (fun k_ hk => ⟨hk.2, hk.1.2⟩))).1 k_ h_.symm) (fun h_ => ((Kd.R_mono (ok' := fun k_ => ((fun k_ => k_ ≠ gb172)) k_ ∧ some k_ ≠ (u164001 : Value).ownBlock) (Kd.R_types (Kd.R_apart' (HO_173002.out) (Kd.S_typed HO_164001.out) (by decide)) BK172.out (by decide)) (fun k_ hk => ⟨hk.2, hk.1.2⟩))).1 k_ h_.symm)) ?aF ?aO ?aB ?aS ?aL ?_; (case aP => exact k53_mkM _ _ _ (⟨t171, x173001_36, x173002_5, ([] : List (S62)), 0⟩ : S53) (Kd.R_mono (Kd.R_tight rfl (Kd.R_mono (ok' := fun k_ => ((fun k_ => k_ ≠ gb172)) k_ ∧ some k_ ≠ (u164001 : Value).ownBlock) (Kd.R_types (Kd.R_apart' (HO_173001.out) (Kd.S_typed HO_164001.out) (by decide)) BK172.out (by decide)) (fun k_ hk => ⟨hk.2, hk.1.2⟩))) (fun _ h_ => Or.inl h_)) (Kd.R_mono (Kd.R_tight rfl (Kd.R_mono (ok' := fun k_ => ((fun k_ => k_ ≠ gb172)) k_ ∧ some k_ ≠ (u164001 : Value).ownBlock) (Kd.R_types (Kd.R_apart' (HO_173002.out) (Kd.S_typed HO_164001.out) (by decide)) BK172.out (by decide)) (fun k_ hk => ⟨hk.2, hk.1.2⟩))) (fun _ h_ => Or.inr (h_))) (Kd.R_nil _ _ _ _ _)); (case aB => exact bel); (case aF => exact (fun k_ hk => Kd.freshB (bkq BK172) k_ hk)); (case aO => exact (by (with_reducible repeat (first | apply Kd.S_alloc | apply Kd.S_drewN | apply Kd.S_drew)); exact Kd.S_mono HO_164001.out (fun k_ hk => ⟨hk.2.2, fun e_ => e_.elim (fun h_ => hk.1 h_) (fun h_ => hk.2.1 h_)⟩))); (case aS => exact (below_size bel)); (case aL => have := LMc114.out; omega); intro v199 w125 ho hb hg hat; rw [← Ny198.out] at ho; have HO200 := Aside0.mk ho; replace HO_164000 := Aside0.mk (Kd.S_over' (kS HO_164000) (Kd.S_typed (kS HO_164001)) (by decide) hg); replace BK161 := Aside0.mk (blk_grown (bkq BK161) hg (Kd.S_ne HO_164001.out BK161.out (by decide))); replace BK162 := Aside0.mk (blk_grown (bkq BK162) hg (Kd.S_ne HO_164001.out BK162.out (by decide))); replace BK163 := Aside0.mk (blk_grown (bkq BK163) hg (Kd.S_ne HO_164001.out BK163.out (by decide))); replace BK172 := Aside0.mk (blk_grown (bkq BK172) hg (Kd.S_away HO_164001.out (fun _ hk => hk.2.2))); replace HB := Aside0.mk (hb); clear HO_164001 HO_173001 HO_173002; clear ho hb hg hat; obtain ⟨Ao127, co127, eo127⟩ := Kd.S_slice HO200.out; subst eo127; obtain ⟨hcz128_0, hcz128_1, hfz128_0, hfz128_1⟩ := bc2 BK163))
                 go_roundg k5
                 case measure => have := HK1.out; have := HK2.out; have := HJ26.out; have := HJ36.out; have := HK5.out; omega
                 case rel => exact ⟨(wrap64 (x7_2 + 1)), (y198), (.slice Ao127 y198.length co127), (by first | rfl | (simp; done) | (simp [*]; done)), H', ⟨by have := HK1.out; have := HK2.out; have := HJ26.out; have := HJ36.out; have := HK5.out; omega⟩, ⟨by (with_reducible repeat (first | apply Kd.S_alloc | apply Kd.S_drewN | apply Kd.S_drew)); exact Kd.S_mono (Kd.S_far (p := ⟨gb163, 1, none⟩) (Kd.S_types HO_164000.out BK163.out (by decide)) (fun _ hk => hk.2) (.slice Ao127 y198.length co127)) (fun _ hk => trivial)⟩, ⟨by (with_reducible repeat (first | apply Kd.S_alloc | apply Kd.S_drewN | apply Kd.S_drew)); exact Kd.S_mono (Kd.S_far (p := ⟨gb163, 1, none⟩) (Kd.S_types HO200.out BK163.out (by decide)) (fun _ hk => hk.2) (.slice Ao127 y198.length co127)) (fun _ hk => trivial)⟩, ⟨bkq BK161⟩, ⟨bkq BK162⟩, ⟨bkp BK163⟩, ⟨by repeat (first | (with_reducible first | exact HB.out | apply below_alloc | apply pw_below_drewN | apply below_drew1 | refine below_set ?_ GE161.out | refine below_set ?_ GE162.out | refine below_set ?_ GE163.out | refine below_set ?_ GE172.out) | exact HB.out)⟩⟩
                ·rw [if_neg c114] at H
                 exact absurd H (by simp)
              ·rw [if_neg c84] at H
               have c84b0 : ((Int.tmod t188 5) == 4) = false := beq_eq_false_iff_ne.mpr c84
               have c84b1 : ((Int.tmod t188 5) != 4) = true := bne_iff_ne.mpr c84
               by_cases c129 : x164001_2.length < 1466015503701
               ·rw [if_pos c129] at H
                have LMc129 := Aside0.mk c129
                clear c129
                obtain ⟨y201, hy201⟩ : ∃ y_ : List (S53), y_ = (x164001_2 ++ [(⟨t171, x173001_36, x173002_5, ([] : List (S62)), 0⟩ : S53)]) := ⟨_, rfl⟩
                replace H : (maquettelaw07_Shape_Config.l1 k5 (wrap64 (Int.tmod a0_0 8)) (wrap64 (x7_2 + 1)) a0_0 l0_1 l0_2 l0_3 l0_4 l0_5 x164000_1 y201) = some (r1, r2) := by first | (rw [hy201]; with_reducible exact H) | (have H2_ := (Option.bind_some _ _).symm.trans H; rw [hy201]; with_reducible exact H2_) | (have H2_ := (Option.bind_some _ _).symm.trans H; with_reducible exact H2_) | with_reducible exact H | (rw [hy201]; exact H) | exact H
                have Ny201 := Aside0.mk hy201
                clear hy201
                have H' := Aside0.mk H
                clear H
                have hnb130 := NB161_162.out
                have hnc130 := NB162_161.out
                have hnb131 := NB161_163.out
                have hnc131 := NB163_161.out
                have hnb132 := NB161_172.out
                have hnc132 := NB172_161.out
                obtain ⟨hcz133_0, hcz133_1, hcz133_2, hcz133_3, hcz133_4, hcz133_5, hfz133_0, hfz133_1, hfz133_2, hfz133_3, hfz133_4, hfz133_5⟩ := bc6 BK161
                go_wp2_with (first | ((with_reducible refine gate_dst (N := 139) rfl ?_); refine gl (some 139) Try.func10 #[.slice A0_5 l0_5.length c0_5, .int .i64 x7_2] ?_; (with_reducible refine (maquettelaw07_number.calls _ _ l0_5 x7_2 t188 _ ?side1 ?side2 A83.out).mono ?_); (case side1 => exact kcb HR0_5); (case side2 => exact HC0_5.out); rintro e w' ⟨rfl, ⟨nd, rfl⟩⟩; refine ⟨_, rfl, ?_⟩; (try (rw [drewN_self wr]; generalize hq_ : World.drewN wr _ = wr; replace HO_164000 := dS hq_ HO_164000; replace HO_164001 := dS hq_ HO_164001; replace HO_173001 := dR hq_ HO_173001; replace HO_173002 := dR hq_ HO_173002; replace BK161 := bkd hq_ BK161; replace BK162 := bkd hq_ BK162; replace BK163 := bkd hq_ BK163; replace BK172 := bkd hq_ BK172; replace HB := bld (w := w) hq_; clear hq_)); have hnb134 := NB163_162.out; have hnc134 := NB162_163.out; have hnb135 := NB163_172.out; have hnc135 := NB172_163.out; obtain ⟨hcz136_0, hcz136_1, hfz136_0, hfz136_1⟩ := bc2 BK163; have hnb137 := NB172_162.out; have hnc137 := NB162_172.out; obtain ⟨hcz138_0, hcz138_1, hcz138_2, hcz138_3, hcz138_4, hfz138_0, hfz138_1, hfz138_2, hfz138_3, hfz138_4⟩ := bc5 BK172; obtain ⟨Ao140, co140, eo140⟩ := Kd.R_slice HO_173001.out; subst eo140; obtain ⟨Ao141, co141, eo141⟩ := Kd.R_slice HO_173002.out; subst eo141) | ((with_reducible refine gate_builtin (b := .append) (xs := #[.tmp 170, .tmp 172]) rfl ?_); (try (refine gate_guard (by rfl) ?_; dsimp only)); at_builtin; refine Kd.S_append k53 (w0 := w) w.heap.size rfl (.tmp 170) (.tmp 172) 28 53 (.agg #[(.string ⟨#[]⟩), (.slice none 0 0), (.slice none 0 0), (.slice none 0 0), (.int .i64 0)]) 96 rfl Try.underlying28 info53 rfl (by decide) (by omega) u164001 x164001_2 (⟨t171, x173001_36, x173002_5, ([] : List (S62)), 0⟩ : S53) [.string t171, .slice Ao140 x173001_36.length co140, .slice Ao141 x173002_5.length co141, .slice none 0 0, .int .i64 0] (fun k_ => k_ ≠ gb172) (fun k_ => some k_ = (.slice Ao140 x173001_36.length co140 : Value).ownBlock ∨ some k_ = (.slice Ao141 x173002_5.length co141 : Value).ownBlock) rfl rfl ?aP (fun k_ hk_ => hk_.elim (fun h_ => ((Kd.R_mono (ok' := fun k_ => ((fun k_ => k_ ≠ gb172)) k_ ∧ some k_ ≠ (u164001 : Value).ownBlock) (Kd.R_types (Kd.R_apart' (HO_173001.out) (Kd.S_typed HO_164001.out) (by decide)) BK172.out (by decide)) (fun k_ hk => ⟨hk.2, hk.1.2⟩))).1 k_ h_.symm) (fun h_ => ((Kd.R_mono (ok' := fun k_ => ((fun k_ => k_ ≠ gb172)) k_ ∧ some k_ ≠ (u164001 : Value).ownBlock) (Kd.R_types (Kd.R_apart' (HO_173002.out) (Kd.S_typed HO_164001.out) (by decide)) BK172.out (by decide)) (fun k_ hk => ⟨hk.2, hk.1.2⟩))).1 k_ h_.symm)) ?aF ?aO ?aB ?aS ?aL ?_; (case aP => exact k53_mkM _ _ _ (⟨t171, x173001_36, x173002_5, ([] : List (S62)), 0⟩ : S53) (Kd.R_mono (Kd.R_tight rfl (Kd.R_mono (ok' := fun k_ => ((fun k_ => k_ ≠ gb172)) k_ ∧ some k_ ≠ (u164001 : Value).ownBlock) (Kd.R_types (Kd.R_apart' (HO_173001.out) (Kd.S_typed HO_164001.out) (by decide)) BK172.out (by decide)) (fun k_ hk => ⟨hk.2, hk.1.2⟩))) (fun _ h_ => Or.inl h_)) (Kd.R_mono (Kd.R_tight rfl (Kd.R_mono (ok' := fun k_ => ((fun k_ => k_ ≠ gb172)) k_ ∧ some k_ ≠ (u164001 : Value).ownBlock) (Kd.R_types (Kd.R_apart' (HO_173002.out) (Kd.S_typed HO_164001.out) (by decide)) BK172.out (by decide)) (fun k_ hk => ⟨hk.2, hk.1.2⟩))) (fun _ h_ => Or.inr (h_))) (Kd.R_nil _ _ _ _ _)); (case aB => exact bel); (case aF => exact (fun k_ hk => Kd.freshB (bkq BK172) k_ hk)); (case aO => exact (by (with_reducible repeat (first | apply Kd.S_alloc | apply Kd.S_drewN | apply Kd.S_drew)); exact Kd.S_mono HO_164001.out (fun k_ hk => ⟨hk.2.2, fun e_ => e_.elim (fun h_ => hk.1 h_) (fun h_ => hk.2.1 h_)⟩))); (case aS => exact (below_size bel)); (case aL => have := LMc129.out; omega); intro v202 w139 ho hb hg hat; rw [← Ny201.out] at ho; have HO203 := Aside0.mk ho; replace HO_164000 := Aside0.mk (Kd.S_over' (kS HO_164000) (Kd.S_typed (kS HO_164001)) (by decide) hg); replace BK161 := Aside0.mk (blk_grown (bkq BK161) hg (Kd.S_ne HO_164001.out BK161.out (by decide))); replace BK162 := Aside0.mk (blk_grown (bkq BK162) hg (Kd.S_ne HO_164001.out BK162.out (by decide))); replace BK163 := Aside0.mk (blk_grown (bkq BK163) hg (Kd.S_ne HO_164001.out BK163.out (by decide))); replace BK172 := Aside0.mk (blk_grown (bkq BK172) hg (Kd.S_away HO_164001.out (fun _ hk => hk.2.2))); replace HB := Aside0.mk (hb); clear HO_164001 HO_173001 HO_173002; clear ho hb hg hat; obtain ⟨Ao142, co142, eo142⟩ := Kd.S_slice HO203.out; subst eo142; obtain ⟨hcz143_0, hcz143_1, hfz143_0, hfz143_1⟩ := bc2 BK163))
                go_roundg k5
                case measure => have := HK1.out; have := HK2.out; have := HJ26.out; have := HJ36.out; have := HK5.out; omega
                case rel => exact ⟨(wrap64 (x7_2 + 1)), (y201), (.slice Ao142 y201.length co142), (by first | rfl | (simp; done) | (simp [*]; done)), H', ⟨by have := HK1.out; have := HK2.out; have := HJ26.out; have := HJ36.out; have := HK5.out; omega⟩, ⟨by (with_reducible repeat (first | apply Kd.S_alloc | apply Kd.S_drewN | apply Kd.S_drew)); exact Kd.S_mono (Kd.S_far (p := ⟨gb163, 1, none⟩) (Kd.S_types HO_164000.out BK163.out (by decide)) (fun _ hk => hk.2) (.slice Ao142 y201.length co142)) (fun _ hk => trivial)⟩, ⟨by (with_reducible repeat (first | apply Kd.S_alloc | apply Kd.S_drewN | apply Kd.S_drew)); exact Kd.S_mono (Kd.S_far (p := ⟨gb163, 1, none⟩) (Kd.S_types HO203.out BK163.out (by decide)) (fun _ hk => hk.2) (.slice Ao142 y201.length co142)) (fun _ hk => trivial)⟩, ⟨bkq BK161⟩, ⟨bkq BK162⟩, ⟨bkp BK163⟩, ⟨by repeat (first | (with_reducible first | exact HB.out | apply below_alloc | apply pw_below_drewN | apply below_drew1 | refine below_set ?_ GE161.out | refine below_set ?_ GE162.out | refine below_set ?_ GE163.out | refine below_set ?_ GE172.out) | exact HB.out)⟩⟩
               ·rw [if_neg c129] at H
                exact absurd H (by simp)
      ·rw [if_neg c24] at H
       have c24b0 := decide_eq_false c24
       clear c24
       simp only [Option.some.injEq, Prod.mk.injEq] at H
       obtain ⟨rfl, rfl⟩ := H
       have hnb144 := NB163_161.out
       have hnc144 := NB161_163.out
       have hnb145 := NB163_162.out
       have hnc145 := NB162_163.out
       obtain ⟨hcz146_0, hcz146_1, hfz146_0, hfz146_1⟩ := bc2 BK163
       obtain ⟨Ao147, co147, eo147⟩ := Kd.S_slice HO_164000.out
       subst eo147
       have hnb148 := NB162_161.out
       have hnc148 := NB161_162.out
       obtain ⟨hcz149_0, hcz149_1, hfz149_0, hfz149_1⟩ := bc2 BK162
       obtain ⟨Ao150, co150, eo150⟩ := Kd.S_slice HO_164001.out
       subst eo150
       go_wp2
       refine bodyPost_ret (results_cell_row rfl _ _ gb162 30 #[.slice Ao147 x164000_1.length co147, .slice Ao150 x164001_2.length co150] (0, 0) _ rfl (bkp BK162) Try.underlying30 rfl (by kernel_rfl)) rfl ?_
       exact ⟨_, _, by first | rfl | (simp [errW_none, errW_some] <;> rfl) | (simp [*, errW_none, errW_some] <;> rfl), by (with_reducible repeat (first | apply Kd.S_alloc | apply Kd.S_drewN | apply Kd.S_drew)); exact Kd.S_mono (Kd.S_far (p := ⟨gb162, 1, none⟩) (Kd.S_far (p := ⟨gb162, 0, none⟩) (Kd.S_types HO_164000.out BK162.out (by decide)) (fun _ hk => hk.2) (.slice Ao147 x164000_1.length co147)) (fun _ hk => hk.2) (.slice Ao150 x164001_2.length co150)) (fun _ hk => trivial), by (with_reducible repeat (first | apply Kd.S_alloc | apply Kd.S_drewN | apply Kd.S_drew)); exact Kd.S_mono (Kd.S_far (p := ⟨gb162, 1, none⟩) (Kd.S_far (p := ⟨gb162, 0, none⟩) (Kd.S_types HO_164001.out BK162.out (by decide)) (fun _ hk => hk.2) (.slice Ao147 x164000_1.length co147)) (fun _ hk => hk.2) (.slice Ao150 x164001_2.length co150)) (fun _ hk => trivial), by repeat (first | (with_reducible first | exact HB.out | apply below_alloc | apply pw_below_drewN | apply below_drew1 | refine below_set ?_ GE161.out | refine below_set ?_ GE162.out | refine below_set ?_ GE163.out) | exact HB.out)⟩

end Go.Proofs.Ytncebbpnmpgjiaa.PMm
