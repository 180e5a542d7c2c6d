-- Written by wip/xprint.py of this work: the printer of the kit, with contracts of this work beside it, shortened.
import Derived.Test.YtkbjjamaneiijaaDoorShort
import Derived.Test.YtkbjjamaneiijaaDoorPPrex0
import Derived.Test.YtkbjjamaneiijaaDoorPPrex1
import Derived.Test.YtkbjjamaneiijaaDoorPPrex11
import Derived.Test.YtkbjjamaneiijaaDoorPPrex12
import Derived.Test.YtkbjjamaneiijaaDoorPPrex14
import Derived.Test.YtkbjjamaneiijaaDoorPPrex16
namespace Go.Proofs.YtkbjjamaneiijaaDoor.PPre
open Go.RowKit Go.Proofs.YtkbjjamaneiijaaDoor.Short Go.Proofs.YtkbjjamaneiijaaDoorW.PrintWords Go.Proofs.YtkbjjamaneiijaaDoorW.PrintLast Go.Proofs.YtkbjjamaneiijaaDoorW.PrintMore
attribute [local go_sem] max2_int min2_int max_two min_two max_three min_three max_four min_four   -- for this text's walks alone
set_option linter.unusedVariables false
set_option linter.unusedSimpArgs false

attribute [local go_sem high] eqA24
/-! ### maquettelaw05_PrefixOrder: function 8 -/
mutual
def maquettelaw05_PrefixOrder.j0 : Nat → Bool → Int → Int → Int → Int → Int → Int → Option (Bool)
 | 0, _, _, _, _, _, _, _ => none
 | k + 1, x46, x166000, x166001, x167000, x167001, x168000, x168001 => if x46 = true then (some false) else ((prefix_Less.f x166000 x166001 x167000 x167001).bind fun t177 => (if t177 = true then ((prefix_Less.f x167000 x167001 x168000 x168001).bind fun t178 => (if t178 = true then ((prefix_Less.f x166000 x166001 x168000 x168001).bind fun t179 => (if t179 = true then ((prefix_Less.f x166000 x166001 x166000 x166001).bind fun t180 => (maquettelaw05_PrefixOrder.j1 k t180 x166000 x166001 x167000 x167001)) else (maquettelaw05_PrefixOrder.j1 k true x166000 x166001 x167000 x167001))) else ((prefix_Less.f x166000 x166001 x166000 x166001).bind fun t181 => (maquettelaw05_PrefixOrder.j1 k t181 x166000 x166001 x167000 x167001)))) else ((prefix_Less.f x166000 x166001 x166000 x166001).bind fun t182 => (maquettelaw05_PrefixOrder.j1 k t182 x166000 x166001 x167000 x167001))))
def maquettelaw05_PrefixOrder.j1 : Nat → Bool → Int → Int → Int → Int → Option (Bool)
 | 0, _, _, _, _, _ => none
 | k + 1, x65, x166000, x166001, x167000, x167001 => if x65 = true then (some false) else ((prefix_Less.f x166000 x166001 x167000 x167001).bind fun t183 => (if t183 = true then (if (true == (!(x166000 == x167000) || (!(x166001 == x167001)))) = true then ((prefix_Covers.f x166000 x166001 x167000 x167001).bind fun t184 => (if t184 = true then ((prefix_Less.f x167000 x167001 x166000 x166001).bind fun t185 => (some (!t185))) else (some true))) else (some false)) else ((prefix_Less.f x167000 x167001 x166000 x166001).bind fun t186 => (if (t186 == (!(x166000 == x167000) || (!(x166001 == x167001)))) = true then ((prefix_Covers.f x166000 x166001 x167000 x167001).bind fun t187 => (if t187 = true then ((prefix_Less.f x167000 x167001 x166000 x166001).bind fun t188 => (some (!t188))) else (some true))) else (some false)))))
end
def maquettelaw05_PrefixOrder.f (k : Nat) (a0 : Int) (a1 : Int) (a2 : Int) : Option (Bool) := (maquettelaw05_awake.f k).bind fun t158 => (if t158 = true then ((maquettelaw05_Make.f k a0).bind fun bt159 => ((maquettelaw05_Make.f k a1).bind fun bt161 => ((maquettelaw05_Make.f k a2).bind fun bt163 => ((prefix_Covers.f bt159.1 bt159.2 bt161.1 bt161.2).bind fun t168 => (if t168 = true then ((prefix_Covers.f bt161.1 bt161.2 bt163.1 bt163.2).bind fun t169 => (if t169 = true then ((prefix_Covers.f bt159.1 bt159.2 bt163.1 bt163.2).bind fun t170 => (if t170 = true then ((prefix_Covers.f bt159.1 bt159.2 bt161.1 bt161.2).bind fun t171 => (if t171 = true then ((prefix_Covers.f bt161.1 bt161.2 bt159.1 bt159.2).bind fun t172 => (if t172 = true then (maquettelaw05_PrefixOrder.j0 k (!(bt159.1 == bt161.1) || (!(bt159.2 == bt161.2))) bt159.1 bt159.2 bt161.1 bt161.2 bt163.1 bt163.2) else (maquettelaw05_PrefixOrder.j0 k false bt159.1 bt159.2 bt161.1 bt161.2 bt163.1 bt163.2))) else (maquettelaw05_PrefixOrder.j0 k false bt159.1 bt159.2 bt161.1 bt161.2 bt163.1 bt163.2))) else (maquettelaw05_PrefixOrder.j0 k true bt159.1 bt159.2 bt161.1 bt161.2 bt163.1 bt163.2))) else ((prefix_Covers.f bt159.1 bt159.2 bt161.1 bt161.2).bind fun t173 => (if t173 = true then ((prefix_Covers.f bt161.1 bt161.2 bt159.1 bt159.2).bind fun t174 => (if t174 = true then (maquettelaw05_PrefixOrder.j0 k (!(bt159.1 == bt161.1) || (!(bt159.2 == bt161.2))) bt159.1 bt159.2 bt161.1 bt161.2 bt163.1 bt163.2) else (maquettelaw05_PrefixOrder.j0 k false bt159.1 bt159.2 bt161.1 bt161.2 bt163.1 bt163.2))) else (maquettelaw05_PrefixOrder.j0 k false bt159.1 bt159.2 bt161.1 bt161.2 bt163.1 bt163.2))))) else ((prefix_Covers.f bt159.1 bt159.2 bt161.1 bt161.2).bind fun t175 => (if t175 = true then ((prefix_Covers.f bt161.1 bt161.2 bt159.1 bt159.2).bind fun t176 => (if t176 = true then (maquettelaw05_PrefixOrder.j0 k (!(bt159.1 == bt161.1) || (!(bt159.2 == bt161.2))) bt159.1 bt159.2 bt161.1 bt161.2 bt163.1 bt163.2) else (maquettelaw05_PrefixOrder.j0 k false bt159.1 bt159.2 bt161.1 bt161.2 bt163.1 bt163.2))) else (maquettelaw05_PrefixOrder.j0 k false bt159.1 bt159.2 bt161.1 bt161.2 bt163.1 bt163.2)))))))) else (some false))
theorem maquettelaw05_PrefixOrder.mono_l : ∀ k, (∀ y0 y1 y2 y3 y4 y5 y6, LeO (maquettelaw05_PrefixOrder.j0 k y0 y1 y2 y3 y4 y5 y6) (maquettelaw05_PrefixOrder.j0 (k + 1) y0 y1 y2 y3 y4 y5 y6)) ∧ (∀ y0 y1 y2 y3 y4, LeO (maquettelaw05_PrefixOrder.j1 k y0 y1 y2 y3 y4) (maquettelaw05_PrefixOrder.j1 (k + 1) y0 y1 y2 y3 y4))
 | 0 => ⟨fun _ _ _ _ _ _ _ r h => by simp [maquettelaw05_PrefixOrder.j0] at h, fun _ _ _ _ _ r h => by simp [maquettelaw05_PrefixOrder.j1] at h⟩
 | k + 1 => by
  obtain ⟨ih0, ih1⟩ := maquettelaw05_PrefixOrder.mono_l k
  refine ⟨?_, ?_⟩
  ·intro y0 y1 y2 y3 y4 y5 y6
   unfold maquettelaw05_PrefixOrder.j0
   repeat' first
   | (with_reducible exact ih0 _ _ _ _ _ _ _)
   | (with_reducible exact ih1 _ _ _ _ _)
   | (with_reducible exact maquettelaw05_Make.mono _ _)
   | (with_reducible exact maquettelaw05_awake.mono _)
   | (with_reducible exact LeO.refl _)
   | (with_reducible exact LeO.none _)
   | (with_reducible refine LeO.ite ?_ ?_)
   | (with_reducible refine LeO.bind ?_ (fun _ => ?_))
   | exact ih0 _ _ _ _ _ _ _
   | exact ih1 _ _ _ _ _
   | exact maquettelaw05_Make.mono _ _
   | exact maquettelaw05_awake.mono _
   | exact LeO.none _
   | refine LeO.ite ?_ ?_
   | refine LeO.bind ?_ (fun _ => ?_)
  ·intro y0 y1 y2 y3 y4
   unfold maquettelaw05_PrefixOrder.j1
   repeat' first
   | (with_reducible exact ih0 _ _ _ _ _ _ _)
   | (with_reducible exact ih1 _ _ _ _ _)
   | (with_reducible exact maquettelaw05_Make.mono _ _)
   | (with_reducible exact maquettelaw05_awake.mono _)
   | (with_reducible exact LeO.refl _)
   | (with_reducible exact LeO.none _)
   | (with_reducible refine LeO.ite ?_ ?_)
   | (with_reducible refine LeO.bind ?_ (fun _ => ?_))
   | exact ih0 _ _ _ _ _ _ _
   | exact ih1 _ _ _ _ _
   | exact maquettelaw05_Make.mono _ _
   | exact maquettelaw05_awake.mono _
   | exact LeO.none _
   | refine LeO.ite ?_ ?_
   | refine LeO.bind ?_ (fun _ => ?_)
theorem maquettelaw05_PrefixOrder.mono : ∀ a0 a1 a2 k, LeO (maquettelaw05_PrefixOrder.f k a0 a1 a2) (maquettelaw05_PrefixOrder.f (k + 1) a0 a1 a2) := by
 intro a0 a1 a2 k
 obtain ⟨ih0, ih1⟩ := maquettelaw05_PrefixOrder.mono_l k
 unfold maquettelaw05_PrefixOrder.f
 repeat' first
   | (with_reducible exact ih0 _ _ _ _ _ _ _)
   | (with_reducible exact ih1 _ _ _ _ _)
   | (with_reducible exact maquettelaw05_Make.mono _ _)
   | (with_reducible exact maquettelaw05_awake.mono _)
   | (with_reducible exact LeO.refl _)
   | (with_reducible exact LeO.none _)
   | (with_reducible refine LeO.ite ?_ ?_)
   | (with_reducible refine LeO.bind ?_ (fun _ => ?_))
   | exact ih0 _ _ _ _ _ _ _
   | exact ih1 _ _ _ _ _
   | exact maquettelaw05_Make.mono _ _
   | exact maquettelaw05_awake.mono _
   | exact LeO.none _
   | refine LeO.ite ?_ ?_
   | refine LeO.bind ?_ (fun _ => ?_)
def maquettelaw05_PrefixOrder.T8 : Bool × List (List Nat × List Nat) := (true, [([], []), ([], []), ([0, 1], [0, 1]), ([2, 2], [2]), ([3], [3]), ([3], [3]), ([4, 5, 3, 3], [3, 4, 5]), ([3, 6], [3, 6]), ([], []), ([], []), ([8, 9], [8, 9]), ([7, 10], [7, 10]), ([11, 6], [11]), ([12], [12]), ([12], [12]), ([13, 14, 12, 12], [12, 13, 14]), ([15, 12], [12, 15]), ([16, 15, 12], [12, 16]), ([17], [17]), ([17], [17]), ([18, 19, 17, 17], [17, 18, 19]), ([20, 17], [17, 20]), ([17, 21, 12], [12, 17, 21]), ([12, 22], [12, 22]), ([23, 20, 0, 1, 2, 3, 4, 5, 6, 7, 8, 9, 10, 11, 12, 13, 14, 15, 16, 17, 18, 19, 20, 21, 22, 23], [23])])
def maquettelaw05_PrefixOrder.B8 : List Nat := [0, 0, 3, 7, 15, 15, 63, 127, 0, 0, 768, 2047, 4095, 8191, 8191, 32767, 65535, 131071, 262143, 262143, 1048575, 2097151, 4194303, 8388607, 16777215]
theorem maquettelaw05_PrefixOrder.tab8 : rtab .any (opsOf Tryd.f8 8) = maquettelaw05_PrefixOrder.T8 := by kernel_rfl
theorem maquettelaw05_PrefixOrder.bits8 : waitsOk maquettelaw05_PrefixOrder.T8.2 maquettelaw05_PrefixOrder.B8 = true := by kernel_rfl
set_option maxHeartbeats 8000000 in
set_option maxRecDepth 100000 in
theorem maquettelaw05_PrefixOrder.calls (k : Nat) (a0 : Int) (a1 : Int) (a2 : Int) (r : Bool) (w : World) (h : maquettelaw05_PrefixOrder.f k a0 a1 a2 = some r) (hInv : Go.Proofs.YtkbjjamaneiijaaDoor.Inv.Inv w) :
  Calls Tryd.prog 8 #[.int .u8 a0, .int .u8 a1, .int .u8 a2] w fun e w' => e = .returned (.bool r) ∧ Below w.heap.size w w' := by
 have hu24 := Tryd.underlying24
 have HB := Aside0.mk (Below.refl w.heap.size w)
 have H : ((maquettelaw05_awake.f k).bind fun t158 => (if t158 = true then ((maquettelaw05_Make.f k a0).bind fun bt159 => ((maquettelaw05_Make.f k a1).bind fun bt161 => ((maquettelaw05_Make.f k a2).bind fun bt163 => ((prefix_Covers.f bt159.1 bt159.2 bt161.1 bt161.2).bind fun t168 => (if t168 = true then ((prefix_Covers.f bt161.1 bt161.2 bt163.1 bt163.2).bind fun t169 => (if t169 = true then ((prefix_Covers.f bt159.1 bt159.2 bt163.1 bt163.2).bind fun t170 => (if t170 = true then ((prefix_Covers.f bt159.1 bt159.2 bt161.1 bt161.2).bind fun t171 => (if t171 = true then ((prefix_Covers.f bt161.1 bt161.2 bt159.1 bt159.2).bind fun t172 => (if t172 = true then (maquettelaw05_PrefixOrder.j0 k (!(bt159.1 == bt161.1) || (!(bt159.2 == bt161.2))) bt159.1 bt159.2 bt161.1 bt161.2 bt163.1 bt163.2) else (maquettelaw05_PrefixOrder.j0 k false bt159.1 bt159.2 bt161.1 bt161.2 bt163.1 bt163.2))) else (maquettelaw05_PrefixOrder.j0 k false bt159.1 bt159.2 bt161.1 bt161.2 bt163.1 bt163.2))) else (maquettelaw05_PrefixOrder.j0 k true bt159.1 bt159.2 bt161.1 bt161.2 bt163.1 bt163.2))) else ((prefix_Covers.f bt159.1 bt159.2 bt161.1 bt161.2).bind fun t173 => (if t173 = true then ((prefix_Covers.f bt161.1 bt161.2 bt159.1 bt159.2).bind fun t174 => (if t174 = true then (maquettelaw05_PrefixOrder.j0 k (!(bt159.1 == bt161.1) || (!(bt159.2 == bt161.2))) bt159.1 bt159.2 bt161.1 bt161.2 bt163.1 bt163.2) else (maquettelaw05_PrefixOrder.j0 k false bt159.1 bt159.2 bt161.1 bt161.2 bt163.1 bt163.2))) else (maquettelaw05_PrefixOrder.j0 k false bt159.1 bt159.2 bt161.1 bt161.2 bt163.1 bt163.2))))) else ((prefix_Covers.f bt159.1 bt159.2 bt161.1 bt161.2).bind fun t175 => (if t175 = true then ((prefix_Covers.f bt161.1 bt161.2 bt159.1 bt159.2).bind fun t176 => (if t176 = true then (maquettelaw05_PrefixOrder.j0 k (!(bt159.1 == bt161.1) || (!(bt159.2 == bt161.2))) bt159.1 bt159.2 bt161.1 bt161.2 bt163.1 bt163.2) else (maquettelaw05_PrefixOrder.j0 k false bt159.1 bt159.2 bt161.1 bt161.2 bt163.1 bt163.2))) else (maquettelaw05_PrefixOrder.j0 k false bt159.1 bt159.2 bt161.1 bt161.2 bt163.1 bt163.2)))))))) else (some false))) = some r := h
 clear h
 replace H := Option.bind_eq_some_iff.mp H
 obtain ⟨t158, A40, H⟩ := H
 replace H : (if t158 = true then ((maquettelaw05_Make.f k a0).bind fun bt159 => ((maquettelaw05_Make.f k a1).bind fun bt161 => ((maquettelaw05_Make.f k a2).bind fun bt163 => ((prefix_Covers.f bt159.1 bt159.2 bt161.1 bt161.2).bind fun t168 => (if t168 = true then ((prefix_Covers.f bt161.1 bt161.2 bt163.1 bt163.2).bind fun t169 => (if t169 = true then ((prefix_Covers.f bt159.1 bt159.2 bt163.1 bt163.2).bind fun t170 => (if t170 = true then ((prefix_Covers.f bt159.1 bt159.2 bt161.1 bt161.2).bind fun t171 => (if t171 = true then ((prefix_Covers.f bt161.1 bt161.2 bt159.1 bt159.2).bind fun t172 => (if t172 = true then (maquettelaw05_PrefixOrder.j0 k (!(bt159.1 == bt161.1) || (!(bt159.2 == bt161.2))) bt159.1 bt159.2 bt161.1 bt161.2 bt163.1 bt163.2) else (maquettelaw05_PrefixOrder.j0 k false bt159.1 bt159.2 bt161.1 bt161.2 bt163.1 bt163.2))) else (maquettelaw05_PrefixOrder.j0 k false bt159.1 bt159.2 bt161.1 bt161.2 bt163.1 bt163.2))) else (maquettelaw05_PrefixOrder.j0 k true bt159.1 bt159.2 bt161.1 bt161.2 bt163.1 bt163.2))) else ((prefix_Covers.f bt159.1 bt159.2 bt161.1 bt161.2).bind fun t173 => (if t173 = true then ((prefix_Covers.f bt161.1 bt161.2 bt159.1 bt159.2).bind fun t174 => (if t174 = true then (maquettelaw05_PrefixOrder.j0 k (!(bt159.1 == bt161.1) || (!(bt159.2 == bt161.2))) bt159.1 bt159.2 bt161.1 bt161.2 bt163.1 bt163.2) else (maquettelaw05_PrefixOrder.j0 k false bt159.1 bt159.2 bt161.1 bt161.2 bt163.1 bt163.2))) else (maquettelaw05_PrefixOrder.j0 k false bt159.1 bt159.2 bt161.1 bt161.2 bt163.1 bt163.2))))) else ((prefix_Covers.f bt159.1 bt159.2 bt161.1 bt161.2).bind fun t175 => (if t175 = true then ((prefix_Covers.f bt161.1 bt161.2 bt159.1 bt159.2).bind fun t176 => (if t176 = true then (maquettelaw05_PrefixOrder.j0 k (!(bt159.1 == bt161.1) || (!(bt159.2 == bt161.2))) bt159.1 bt159.2 bt161.1 bt161.2 bt163.1 bt163.2) else (maquettelaw05_PrefixOrder.j0 k false bt159.1 bt159.2 bt161.1 bt161.2 bt163.1 bt163.2))) else (maquettelaw05_PrefixOrder.j0 k false bt159.1 bt159.2 bt161.1 bt161.2 bt163.1 bt163.2)))))))) else (some false)) = some r := H
 have A4 := Aside0.mk A40
 clear A40
 by_cases c5 : t158 = true
 ·subst c5
  have H1 : ((maquettelaw05_Make.f k a0).bind fun bt159 => ((maquettelaw05_Make.f k a1).bind fun bt161 => ((maquettelaw05_Make.f k a2).bind fun bt163 => ((prefix_Covers.f bt159.1 bt159.2 bt161.1 bt161.2).bind fun t168 => (if t168 = true then ((prefix_Covers.f bt161.1 bt161.2 bt163.1 bt163.2).bind fun t169 => (if t169 = true then ((prefix_Covers.f bt159.1 bt159.2 bt163.1 bt163.2).bind fun t170 => (if t170 = true then ((prefix_Covers.f bt159.1 bt159.2 bt161.1 bt161.2).bind fun t171 => (if t171 = true then ((prefix_Covers.f bt161.1 bt161.2 bt159.1 bt159.2).bind fun t172 => (if t172 = true then (maquettelaw05_PrefixOrder.j0 k (!(bt159.1 == bt161.1) || (!(bt159.2 == bt161.2))) bt159.1 bt159.2 bt161.1 bt161.2 bt163.1 bt163.2) else (maquettelaw05_PrefixOrder.j0 k false bt159.1 bt159.2 bt161.1 bt161.2 bt163.1 bt163.2))) else (maquettelaw05_PrefixOrder.j0 k false bt159.1 bt159.2 bt161.1 bt161.2 bt163.1 bt163.2))) else (maquettelaw05_PrefixOrder.j0 k true bt159.1 bt159.2 bt161.1 bt161.2 bt163.1 bt163.2))) else ((prefix_Covers.f bt159.1 bt159.2 bt161.1 bt161.2).bind fun t173 => (if t173 = true then ((prefix_Covers.f bt161.1 bt161.2 bt159.1 bt159.2).bind fun t174 => (if t174 = true then (maquettelaw05_PrefixOrder.j0 k (!(bt159.1 == bt161.1) || (!(bt159.2 == bt161.2))) bt159.1 bt159.2 bt161.1 bt161.2 bt163.1 bt163.2) else (maquettelaw05_PrefixOrder.j0 k false bt159.1 bt159.2 bt161.1 bt161.2 bt163.1 bt163.2))) else (maquettelaw05_PrefixOrder.j0 k false bt159.1 bt159.2 bt161.1 bt161.2 bt163.1 bt163.2))))) else ((prefix_Covers.f bt159.1 bt159.2 bt161.1 bt161.2).bind fun t175 => (if t175 = true then ((prefix_Covers.f bt161.1 bt161.2 bt159.1 bt159.2).bind fun t176 => (if t176 = true then (maquettelaw05_PrefixOrder.j0 k (!(bt159.1 == bt161.1) || (!(bt159.2 == bt161.2))) bt159.1 bt159.2 bt161.1 bt161.2 bt163.1 bt163.2) else (maquettelaw05_PrefixOrder.j0 k false bt159.1 bt159.2 bt161.1 bt161.2 bt163.1 bt163.2))) else (maquettelaw05_PrefixOrder.j0 k false bt159.1 bt159.2 bt161.1 bt161.2 bt163.1 bt163.2)))))))) = some r := by rw [if_pos rfl] at H; exact H
  clear H
  have H := H1
  clear H1
  replace H := Option.bind_eq_some_iff.mp H
  obtain ⟨⟨t159, t160⟩, A60, H⟩ := H
  replace H : ((maquettelaw05_Make.f k a1).bind fun bt161 => ((maquettelaw05_Make.f k a2).bind fun bt163 => ((prefix_Covers.f t159 t160 bt161.1 bt161.2).bind fun t168 => (if t168 = true then ((prefix_Covers.f bt161.1 bt161.2 bt163.1 bt163.2).bind fun t169 => (if t169 = true then ((prefix_Covers.f t159 t160 bt163.1 bt163.2).bind fun t170 => (if t170 = true then ((prefix_Covers.f t159 t160 bt161.1 bt161.2).bind fun t171 => (if t171 = true then ((prefix_Covers.f bt161.1 bt161.2 t159 t160).bind fun t172 => (if t172 = true then (maquettelaw05_PrefixOrder.j0 k (!(t159 == bt161.1) || (!(t160 == bt161.2))) t159 t160 bt161.1 bt161.2 bt163.1 bt163.2) else (maquettelaw05_PrefixOrder.j0 k false t159 t160 bt161.1 bt161.2 bt163.1 bt163.2))) else (maquettelaw05_PrefixOrder.j0 k false t159 t160 bt161.1 bt161.2 bt163.1 bt163.2))) else (maquettelaw05_PrefixOrder.j0 k true t159 t160 bt161.1 bt161.2 bt163.1 bt163.2))) else ((prefix_Covers.f t159 t160 bt161.1 bt161.2).bind fun t173 => (if t173 = true then ((prefix_Covers.f bt161.1 bt161.2 t159 t160).bind fun t174 => (if t174 = true then (maquettelaw05_PrefixOrder.j0 k (!(t159 == bt161.1) || (!(t160 == bt161.2))) t159 t160 bt161.1 bt161.2 bt163.1 bt163.2) else (maquettelaw05_PrefixOrder.j0 k false t159 t160 bt161.1 bt161.2 bt163.1 bt163.2))) else (maquettelaw05_PrefixOrder.j0 k false t159 t160 bt161.1 bt161.2 bt163.1 bt163.2))))) else ((prefix_Covers.f t159 t160 bt161.1 bt161.2).bind fun t175 => (if t175 = true then ((prefix_Covers.f bt161.1 bt161.2 t159 t160).bind fun t176 => (if t176 = true then (maquettelaw05_PrefixOrder.j0 k (!(t159 == bt161.1) || (!(t160 == bt161.2))) t159 t160 bt161.1 bt161.2 bt163.1 bt163.2) else (maquettelaw05_PrefixOrder.j0 k false t159 t160 bt161.1 bt161.2 bt163.1 bt163.2))) else (maquettelaw05_PrefixOrder.j0 k false t159 t160 bt161.1 bt161.2 bt163.1 bt163.2))))))) = some r := H
  have A6 := Aside0.mk A60
  clear A60
  replace H := Option.bind_eq_some_iff.mp H
  obtain ⟨⟨t161, t162⟩, A70, H⟩ := H
  replace H : ((maquettelaw05_Make.f k a2).bind fun bt163 => ((prefix_Covers.f t159 t160 t161 t162).bind fun t168 => (if t168 = true then ((prefix_Covers.f t161 t162 bt163.1 bt163.2).bind fun t169 => (if t169 = true then ((prefix_Covers.f t159 t160 bt163.1 bt163.2).bind fun t170 => (if t170 = true then ((prefix_Covers.f t159 t160 t161 t162).bind fun t171 => (if t171 = true then ((prefix_Covers.f t161 t162 t159 t160).bind fun t172 => (if t172 = true then (maquettelaw05_PrefixOrder.j0 k (!(t159 == t161) || (!(t160 == t162))) t159 t160 t161 t162 bt163.1 bt163.2) else (maquettelaw05_PrefixOrder.j0 k false t159 t160 t161 t162 bt163.1 bt163.2))) else (maquettelaw05_PrefixOrder.j0 k false t159 t160 t161 t162 bt163.1 bt163.2))) else (maquettelaw05_PrefixOrder.j0 k true t159 t160 t161 t162 bt163.1 bt163.2))) else ((prefix_Covers.f t159 t160 t161 t162).bind fun t173 => (if t173 = true then ((prefix_Covers.f t161 t162 t159 t160).bind fun t174 => (if t174 = true then (maquettelaw05_PrefixOrder.j0 k (!(t159 == t161) || (!(t160 == t162))) t159 t160 t161 t162 bt163.1 bt163.2) else (maquettelaw05_PrefixOrder.j0 k false t159 t160 t161 t162 bt163.1 bt163.2))) else (maquettelaw05_PrefixOrder.j0 k false t159 t160 t161 t162 bt163.1 bt163.2))))) else ((prefix_Covers.f t159 t160 t161 t162).bind fun t175 => (if t175 = true then ((prefix_Covers.f t161 t162 t159 t160).bind fun t176 => (if t176 = true then (maquettelaw05_PrefixOrder.j0 k (!(t159 == t161) || (!(t160 == t162))) t159 t160 t161 t162 bt163.1 bt163.2) else (maquettelaw05_PrefixOrder.j0 k false t159 t160 t161 t162 bt163.1 bt163.2))) else (maquettelaw05_PrefixOrder.j0 k false t159 t160 t161 t162 bt163.1 bt163.2)))))) = some r := H
  have A7 := Aside0.mk A70
  clear A70
  replace H := Option.bind_eq_some_iff.mp H
  obtain ⟨⟨t163, t164⟩, A80, H⟩ := H
  replace H : ((prefix_Covers.f t159 t160 t161 t162).bind fun t168 => (if t168 = true then ((prefix_Covers.f t161 t162 t163 t164).bind fun t169 => (if t169 = true then ((prefix_Covers.f t159 t160 t163 t164).bind fun t170 => (if t170 = true then ((prefix_Covers.f t159 t160 t161 t162).bind fun t171 => (if t171 = true then ((prefix_Covers.f t161 t162 t159 t160).bind fun t172 => (if t172 = true then (maquettelaw05_PrefixOrder.j0 k (!(t159 == t161) || (!(t160 == t162))) t159 t160 t161 t162 t163 t164) else (maquettelaw05_PrefixOrder.j0 k false t159 t160 t161 t162 t163 t164))) else (maquettelaw05_PrefixOrder.j0 k false t159 t160 t161 t162 t163 t164))) else (maquettelaw05_PrefixOrder.j0 k true t159 t160 t161 t162 t163 t164))) else ((prefix_Covers.f t159 t160 t161 t162).bind fun t173 => (if t173 = true then ((prefix_Covers.f t161 t162 t159 t160).bind fun t174 => (if t174 = true then (maquettelaw05_PrefixOrder.j0 k (!(t159 == t161) || (!(t160 == t162))) t159 t160 t161 t162 t163 t164) else (maquettelaw05_PrefixOrder.j0 k false t159 t160 t161 t162 t163 t164))) else (maquettelaw05_PrefixOrder.j0 k false t159 t160 t161 t162 t163 t164))))) else ((prefix_Covers.f t159 t160 t161 t162).bind fun t175 => (if t175 = true then ((prefix_Covers.f t161 t162 t159 t160).bind fun t176 => (if t176 = true then (maquettelaw05_PrefixOrder.j0 k (!(t159 == t161) || (!(t160 == t162))) t159 t160 t161 t162 t163 t164) else (maquettelaw05_PrefixOrder.j0 k false t159 t160 t161 t162 t163 t164))) else (maquettelaw05_PrefixOrder.j0 k false t159 t160 t161 t162 t163 t164))))) = some r := H
  have A8 := Aside0.mk A80
  clear A80
  have HC9 := Aside0.mk H
  clear H
  go_enter Tryd.func8, Tryd.ntmps8
  go_upto_region 4 with (first | ((with_reducible refine gate_dst (N := 10) rfl ?_); refine gl (some 10) Tryd.func15 #[] ?_; (with_reducible refine (maquettelaw05_awake.calls k  true _ A4.out (by with_reducible first | exact hInv | exact Go.Proofs.YtkbjjamaneiijaaDoor.Inv.Inv.below hInv HB.out | exact Go.Proofs.YtkbjjamaneiijaaDoor.Inv.Inv.below hInv bel | (repeat (first | exact hInv | exact Go.Proofs.YtkbjjamaneiijaaDoor.Inv.Inv.below hInv HB.out | exact Go.Proofs.YtkbjjamaneiijaaDoor.Inv.Inv.below hInv bel | apply Go.Proofs.YtkbjjamaneiijaaDoor.Inv.Inv.alloc | apply Go.Proofs.YtkbjjamaneiijaaDoor.Inv.Inv.drewN | apply Go.Proofs.YtkbjjamaneiijaaDoor.Inv.Inv.drew)))).mono ?_); rintro e w10 ⟨rfl, hb⟩; refine ⟨_, rfl, ?_⟩; replace HB := bst hb; (try clear hb); (try clear hb2); (try clear hk); (try clear hi)) | ((with_reducible refine gate_dst (N := 13) rfl ?_); refine gl (some 13) Tryd.func19 #[.int .u8 a0] ?_; (with_reducible refine (maquettelaw05_Make.calls k a0 t159 t160 _ A6.out).mono ?_); rintro e w11 ⟨rfl, hb⟩; refine ⟨_, rfl, ?_⟩; replace HB := bst hb; (try clear hb); (try clear hb2); (try clear hk); (try clear hi)) | ((with_reducible refine gate_dst (N := 15) rfl ?_); refine gl (some 15) Tryd.func19 #[.int .u8 a1] ?_; (with_reducible refine (maquettelaw05_Make.calls k a1 t161 t162 _ A7.out).mono ?_); rintro e w12 ⟨rfl, hb⟩; refine ⟨_, rfl, ?_⟩; replace HB := bst hb; (try clear hb); (try clear hb2); (try clear hk); (try clear hi)) | ((with_reducible refine gate_dst (N := 17) rfl ?_); refine gl (some 17) Tryd.func19 #[.int .u8 a2] ?_; (with_reducible refine (maquettelaw05_Make.calls k a2 t163 t164 _ A8.out).mono ?_); rintro e w13 ⟨rfl, hb⟩; refine ⟨_, rfl, ?_⟩; replace HB := bst hb; (try clear hb); (try clear hb2); (try clear hk); (try clear hi)) | ((with_reducible refine gate_dst (N := 7) rfl ?_); refine bx 7 (cs := #[.int .u32 0, .int .i64 0]) (t := 24) (h := ?_); intro gb165 hg w14 hbox hb; have BK165 := Aside0.mk hbox; have GW165 : Aside0 (w.heap.size ≤ gb165) := bge hg; have GE165 : Aside0 (w.heap.size ≤ gb165) := bge hg; replace HB := bst hb; clear hb hbox hg) | ((with_reducible refine gate_dst (N := 8) rfl ?_); refine bx 8 (cs := #[.int .u32 0, .int .i64 0]) (t := 24) (h := ?_); intro gb166 hg w15 hbox hb; have BK166 := Aside0.mk hbox; have GW166 : Aside0 (w.heap.size ≤ gb166) := bge hg; have GE166 : Aside0 (w.heap.size ≤ gb166) := bge hg; have NB165_166 := bne BK165 hg; have NB166_165 := bnf BK165 hg; replace BK165 := bkb BK165 hb; replace HB := bst hb; clear hb hbox hg) | ((with_reducible refine gate_dst (N := 9) rfl ?_); refine bx 9 (cs := #[.int .u32 0, .int .i64 0]) (t := 24) (h := ?_); intro gb167 hg w16 hbox hb; have BK167 := Aside0.mk hbox; have GW167 : Aside0 (w.heap.size ≤ gb167) := bge hg; have GE167 : Aside0 (w.heap.size ≤ gb167) := bge hg; have NB165_167 := bne BK165 hg; have NB167_165 := bnf BK165 hg; have NB166_167 := bne BK166 hg; have NB167_166 := bnf BK166 hg; replace BK165 := bkb BK165 hb; replace BK166 := bkb BK166 hb; replace HB := bst hb; clear hb hbox hg; have hnb17 := NB165_166.out; have hnc17 := NB166_165.out; have hnb18 := NB165_167.out; have hnc18 := NB167_165.out; obtain ⟨hcz19_0, hcz19_1, hfz19_0, hfz19_1⟩ := bc2 BK165; have hnb20 := NB166_167.out; have hnc20 := NB167_166.out; obtain ⟨hcz21_0, hcz21_1, hfz21_0, hfz21_1⟩ := bc2 BK166; obtain ⟨hcz22_0, hcz22_1, hfz22_0, hfz22_1⟩ := bc2 BK167))
  (try simp only [Act.put, List.setIfInBounds_toArray, List.set_cons_zero, List.set_cons_succ])
  go_cut [46] (fun v46 wc => ∃ (kq : Nat) (x46_8 : Bool), v46 = .bool x46_8 ∧ Aside0 (maquettelaw05_PrefixOrder.j0 kq x46_8 t159 t160 t161 t162 t163 t164 = some r) ∧ Aside0 (kq ≤ k) ∧ Aside0 (wc.heap[gb165]? = some (.cells #[.int .u32 t159, .int .i64 t160] 24 (0, 0))) ∧ Aside0 (wc.heap[gb166]? = some (.cells #[.int .u32 t161, .int .i64 t162] 24 (0, 0))) ∧ Aside0 (wc.heap[gb167]? = some (.cells #[.int .u32 t163, .int .i64 t164] 24 (0, 0))) ∧ Aside0 (Below w.heap.size w wc))
  case first =>
   have H := HC9.out
   clear HC9
   replace H := Option.bind_eq_some_iff.mp H
   obtain ⟨t168, A230, H⟩ := H
   replace H : (if t168 = true then ((prefix_Covers.f t161 t162 t163 t164).bind fun t169 => (if t169 = true then ((prefix_Covers.f t159 t160 t163 t164).bind fun t170 => (if t170 = true then ((prefix_Covers.f t159 t160 t161 t162).bind fun t171 => (if t171 = true then ((prefix_Covers.f t161 t162 t159 t160).bind fun t172 => (if t172 = true then (maquettelaw05_PrefixOrder.j0 k (!(t159 == t161) || (!(t160 == t162))) t159 t160 t161 t162 t163 t164) else (maquettelaw05_PrefixOrder.j0 k false t159 t160 t161 t162 t163 t164))) else (maquettelaw05_PrefixOrder.j0 k false t159 t160 t161 t162 t163 t164))) else (maquettelaw05_PrefixOrder.j0 k true t159 t160 t161 t162 t163 t164))) else ((prefix_Covers.f t159 t160 t161 t162).bind fun t173 => (if t173 = true then ((prefix_Covers.f t161 t162 t159 t160).bind fun t174 => (if t174 = true then (maquettelaw05_PrefixOrder.j0 k (!(t159 == t161) || (!(t160 == t162))) t159 t160 t161 t162 t163 t164) else (maquettelaw05_PrefixOrder.j0 k false t159 t160 t161 t162 t163 t164))) else (maquettelaw05_PrefixOrder.j0 k false t159 t160 t161 t162 t163 t164))))) else ((prefix_Covers.f t159 t160 t161 t162).bind fun t175 => (if t175 = true then ((prefix_Covers.f t161 t162 t159 t160).bind fun t176 => (if t176 = true then (maquettelaw05_PrefixOrder.j0 k (!(t159 == t161) || (!(t160 == t162))) t159 t160 t161 t162 t163 t164) else (maquettelaw05_PrefixOrder.j0 k false t159 t160 t161 t162 t163 t164))) else (maquettelaw05_PrefixOrder.j0 k false t159 t160 t161 t162 t163 t164)))) = some r := H
   have A23 := Aside0.mk A230
   clear A230
   by_cases c24 : t168 = true
   ·subst c24
    have H1 : ((prefix_Covers.f t161 t162 t163 t164).bind fun t169 => (if t169 = true then ((prefix_Covers.f t159 t160 t163 t164).bind fun t170 => (if t170 = true then ((prefix_Covers.f t159 t160 t161 t162).bind fun t171 => (if t171 = true then ((prefix_Covers.f t161 t162 t159 t160).bind fun t172 => (if t172 = true then (maquettelaw05_PrefixOrder.j0 k (!(t159 == t161) || (!(t160 == t162))) t159 t160 t161 t162 t163 t164) else (maquettelaw05_PrefixOrder.j0 k false t159 t160 t161 t162 t163 t164))) else (maquettelaw05_PrefixOrder.j0 k false t159 t160 t161 t162 t163 t164))) else (maquettelaw05_PrefixOrder.j0 k true t159 t160 t161 t162 t163 t164))) else ((prefix_Covers.f t159 t160 t161 t162).bind fun t173 => (if t173 = true then ((prefix_Covers.f t161 t162 t159 t160).bind fun t174 => (if t174 = true then (maquettelaw05_PrefixOrder.j0 k (!(t159 == t161) || (!(t160 == t162))) t159 t160 t161 t162 t163 t164) else (maquettelaw05_PrefixOrder.j0 k false t159 t160 t161 t162 t163 t164))) else (maquettelaw05_PrefixOrder.j0 k false t159 t160 t161 t162 t163 t164))))) = some r := by rw [if_pos rfl] at H; exact H
    clear H
    have H := H1
    clear H1
    replace H := Option.bind_eq_some_iff.mp H
    obtain ⟨t169, A250, H⟩ := H
    replace H : (if t169 = true then ((prefix_Covers.f t159 t160 t163 t164).bind fun t170 => (if t170 = true then ((prefix_Covers.f t159 t160 t161 t162).bind fun t171 => (if t171 = true then ((prefix_Covers.f t161 t162 t159 t160).bind fun t172 => (if t172 = true then (maquettelaw05_PrefixOrder.j0 k (!(t159 == t161) || (!(t160 == t162))) t159 t160 t161 t162 t163 t164) else (maquettelaw05_PrefixOrder.j0 k false t159 t160 t161 t162 t163 t164))) else (maquettelaw05_PrefixOrder.j0 k false t159 t160 t161 t162 t163 t164))) else (maquettelaw05_PrefixOrder.j0 k true t159 t160 t161 t162 t163 t164))) else ((prefix_Covers.f t159 t160 t161 t162).bind fun t173 => (if t173 = true then ((prefix_Covers.f t161 t162 t159 t160).bind fun t174 => (if t174 = true then (maquettelaw05_PrefixOrder.j0 k (!(t159 == t161) || (!(t160 == t162))) t159 t160 t161 t162 t163 t164) else (maquettelaw05_PrefixOrder.j0 k false t159 t160 t161 t162 t163 t164))) else (maquettelaw05_PrefixOrder.j0 k false t159 t160 t161 t162 t163 t164)))) = some r := H
    have A25 := Aside0.mk A250
    clear A250
    by_cases c26 : t169 = true
    ·subst c26
     have H1 : ((prefix_Covers.f t159 t160 t163 t164).bind fun t170 => (if t170 = true then ((prefix_Covers.f t159 t160 t161 t162).bind fun t171 => (if t171 = true then ((prefix_Covers.f t161 t162 t159 t160).bind fun t172 => (if t172 = true then (maquettelaw05_PrefixOrder.j0 k (!(t159 == t161) || (!(t160 == t162))) t159 t160 t161 t162 t163 t164) else (maquettelaw05_PrefixOrder.j0 k false t159 t160 t161 t162 t163 t164))) else (maquettelaw05_PrefixOrder.j0 k false t159 t160 t161 t162 t163 t164))) else (maquettelaw05_PrefixOrder.j0 k true t159 t160 t161 t162 t163 t164))) = some r := by rw [if_pos rfl] at H; exact H
     clear H
     have H := H1
     clear H1
     replace H := Option.bind_eq_some_iff.mp H
     obtain ⟨t170, A270, H⟩ := H
     replace H : (if t170 = true then ((prefix_Covers.f t159 t160 t161 t162).bind fun t171 => (if t171 = true then ((prefix_Covers.f t161 t162 t159 t160).bind fun t172 => (if t172 = true then (maquettelaw05_PrefixOrder.j0 k (!(t159 == t161) || (!(t160 == t162))) t159 t160 t161 t162 t163 t164) else (maquettelaw05_PrefixOrder.j0 k false t159 t160 t161 t162 t163 t164))) else (maquettelaw05_PrefixOrder.j0 k false t159 t160 t161 t162 t163 t164))) else (maquettelaw05_PrefixOrder.j0 k true t159 t160 t161 t162 t163 t164)) = some r := H
     have A27 := Aside0.mk A270
     clear A270
     by_cases c28 : t170 = true
     ·subst c28
      have H1 : ((prefix_Covers.f t159 t160 t161 t162).bind fun t171 => (if t171 = true then ((prefix_Covers.f t161 t162 t159 t160).bind fun t172 => (if t172 = true then (maquettelaw05_PrefixOrder.j0 k (!(t159 == t161) || (!(t160 == t162))) t159 t160 t161 t162 t163 t164) else (maquettelaw05_PrefixOrder.j0 k false t159 t160 t161 t162 t163 t164))) else (maquettelaw05_PrefixOrder.j0 k false t159 t160 t161 t162 t163 t164))) = some r := by rw [if_pos rfl] at H; exact H
      clear H
      have H := H1
      clear H1
      replace H := Option.bind_eq_some_iff.mp H
      obtain ⟨t171, A290, H⟩ := H
      replace H : (if t171 = true then ((prefix_Covers.f t161 t162 t159 t160).bind fun t172 => (if t172 = true then (maquettelaw05_PrefixOrder.j0 k (!(t159 == t161) || (!(t160 == t162))) t159 t160 t161 t162 t163 t164) else (maquettelaw05_PrefixOrder.j0 k false t159 t160 t161 t162 t163 t164))) else (maquettelaw05_PrefixOrder.j0 k false t159 t160 t161 t162 t163 t164)) = some r := H
      have A29 := Aside0.mk A290
      clear A290
      by_cases c30 : t171 = true
      ·subst c30
       have H1 : ((prefix_Covers.f t161 t162 t159 t160).bind fun t172 => (if t172 = true then (maquettelaw05_PrefixOrder.j0 k (!(t159 == t161) || (!(t160 == t162))) t159 t160 t161 t162 t163 t164) else (maquettelaw05_PrefixOrder.j0 k false t159 t160 t161 t162 t163 t164))) = some r := by rw [if_pos rfl] at H; exact H
       clear H
       have H := H1
       clear H1
       replace H := Option.bind_eq_some_iff.mp H
       obtain ⟨t172, A310, H⟩ := H
       replace H : (if t172 = true then (maquettelaw05_PrefixOrder.j0 k (!(t159 == t161) || (!(t160 == t162))) t159 t160 t161 t162 t163 t164) else (maquettelaw05_PrefixOrder.j0 k false t159 t160 t161 t162 t163 t164)) = some r := H
       have A31 := Aside0.mk A310
       clear A310
       by_cases c32 : t172 = true
       ·subst c32
        have H1 : (maquettelaw05_PrefixOrder.j0 k (!(t159 == t161) || (!(t160 == t162))) t159 t160 t161 t162 t163 t164) = some r := by rw [if_pos rfl] at H; exact H
        clear H
        have H := H1
        clear H1
        have H' := Aside0.mk H
        clear H
        have hnb33 := NB165_166.out
        have hnc33 := NB166_165.out
        have hnb34 := NB165_167.out
        have hnc34 := NB167_165.out
        obtain ⟨hcz35_0, hcz35_1, hfz35_0, hfz35_1⟩ := bc2 BK165
        have hnb36 := NB166_167.out
        have hnc36 := NB167_166.out
        obtain ⟨hcz37_0, hcz37_1, hfz37_0, hfz37_1⟩ := bc2 BK166
        go_wp2_with (first | ((with_reducible refine gate_dst (N := 20) rfl ?_); refine gl (some 20) Tryd.func24 #[.agg #[.int .u32 t159, .int .i64 t160], .agg #[.int .u32 t161, .int .i64 t162]] ?_; (with_reducible refine (prefix_Covers.calls t159 t160 t161 t162 true _ A23.out).mono ?_); rintro e w38 ⟨rfl, hb⟩; refine ⟨_, rfl, ?_⟩; replace BK165 := Aside0.mk (blk_below (g := gb165) (o := .cells #[.int .u32 t159, .int .i64 t160] 24 (0, 0)) (bkp BK165) hb); replace BK166 := Aside0.mk (blk_below (g := gb166) (o := .cells #[.int .u32 t161, .int .i64 t162] 24 (0, 0)) (bkp BK166) hb); replace BK167 := Aside0.mk (blk_below (g := gb167) (o := .cells #[.int .u32 t163, .int .i64 t164] 24 (0, 0)) (bkp BK167) hb); replace HB := bst hb; (try clear hb); (try clear hb2); (try clear hk); (try clear hi); obtain ⟨hcz39_0, hcz39_1, hfz39_0, hfz39_1⟩ := bc2 BK166; obtain ⟨hcz40_0, hcz40_1, hfz40_0, hfz40_1⟩ := bc2 BK167) | (go_at_call 24; (with_reducible refine (prefix_Covers.calls t161 t162 t163 t164 true _ A25.out).mono ?_); rintro e w41 ⟨rfl, hb⟩; replace BK165 := bkb BK165 hb; replace BK166 := bkb BK166 hb; replace BK167 := bkb BK167 hb; replace HB := bst hb; (try clear hb); (try clear hb2); (try clear hk); (try clear hi); obtain ⟨hcz42_0, hcz42_1, hfz42_0, hfz42_1⟩ := bc2 BK165; obtain ⟨hcz43_0, hcz43_1, hfz43_0, hfz43_1⟩ := bc2 BK167) | (go_at_call 24; (with_reducible refine (prefix_Covers.calls t159 t160 t163 t164 true _ A27.out).mono ?_); rintro e w44 ⟨rfl, hb⟩; replace BK165 := bkb BK165 hb; replace BK166 := bkb BK166 hb; replace BK167 := bkb BK167 hb; replace HB := bst hb; (try clear hb); (try clear hb2); (try clear hk); (try clear hi); obtain ⟨hcz45_0, hcz45_1, hfz45_0, hfz45_1⟩ := bc2 BK165; obtain ⟨hcz46_0, hcz46_1, hfz46_0, hfz46_1⟩ := bc2 BK166) | (go_at_call 24; (with_reducible refine (prefix_Covers.calls t159 t160 t161 t162 true _ A29.out).mono ?_); rintro e w47 ⟨rfl, hb⟩; replace BK165 := bkb BK165 hb; replace BK166 := bkb BK166 hb; replace BK167 := bkb BK167 hb; replace HB := bst hb; (try clear hb); (try clear hb2); (try clear hk); (try clear hi); obtain ⟨hcz48_0, hcz48_1, hfz48_0, hfz48_1⟩ := bc2 BK166; obtain ⟨hcz49_0, hcz49_1, hfz49_0, hfz49_1⟩ := bc2 BK165) | (go_at_call 24; (with_reducible refine (prefix_Covers.calls t161 t162 t159 t160 true _ A31.out).mono ?_); rintro e w50 ⟨rfl, hb⟩; replace BK165 := bkb BK165 hb; replace BK166 := bkb BK166 hb; replace BK167 := bkb BK167 hb; replace HB := bst hb; (try clear hb); (try clear hb2); (try clear hk); (try clear hi); obtain ⟨hcz51_0, hcz51_1, hfz51_0, hfz51_1⟩ := bc2 BK165; obtain ⟨hcz52_0, hcz52_1, hfz52_0, hfz52_1⟩ := bc2 BK166))
        go_meet
        case rel => exact ⟨_, ((!(t159 == t161) || (!(t160 == t162)))), (by first | rfl | (simp; done) | (simp [*]; done)), H', ⟨by first | omega | exact Nat.le_refl _⟩, ⟨bkq BK165⟩, ⟨bkq BK166⟩, ⟨bkq BK167⟩, ⟨by repeat (first | (with_reducible first | exact HB.out | apply below_alloc | apply pw_below_drewN | apply below_drew1 | refine below_set ?_ GE165.out | refine below_set ?_ GE166.out | refine below_set ?_ GE167.out) | exact HB.out)⟩⟩
       ·replace c32 := Bool.eq_false_iff.mpr c32
        subst c32
        have H1 : (maquettelaw05_PrefixOrder.j0 k false t159 t160 t161 t162 t163 t164) = some r := by rw [if_neg (show ¬ (false = true) by decide)] at H; exact H
        clear H
        have H := H1
        clear H1
        have H' := Aside0.mk H
        clear H
        have hnb53 := NB165_166.out
        have hnc53 := NB166_165.out
        have hnb54 := NB165_167.out
        have hnc54 := NB167_165.out
        obtain ⟨hcz55_0, hcz55_1, hfz55_0, hfz55_1⟩ := bc2 BK165
        have hnb56 := NB166_167.out
        have hnc56 := NB167_166.out
        obtain ⟨hcz57_0, hcz57_1, hfz57_0, hfz57_1⟩ := bc2 BK166
        go_wp2_with (first | ((with_reducible refine gate_dst (N := 20) rfl ?_); refine gl (some 20) Tryd.func24 #[.agg #[.int .u32 t159, .int .i64 t160], .agg #[.int .u32 t161, .int .i64 t162]] ?_; (with_reducible refine (prefix_Covers.calls t159 t160 t161 t162 true _ A23.out).mono ?_); rintro e w58 ⟨rfl, hb⟩; refine ⟨_, rfl, ?_⟩; replace BK165 := Aside0.mk (blk_below (g := gb165) (o := .cells #[.int .u32 t159, .int .i64 t160] 24 (0, 0)) (bkp BK165) hb); replace BK166 := Aside0.mk (blk_below (g := gb166) (o := .cells #[.int .u32 t161, .int .i64 t162] 24 (0, 0)) (bkp BK166) hb); replace BK167 := Aside0.mk (blk_below (g := gb167) (o := .cells #[.int .u32 t163, .int .i64 t164] 24 (0, 0)) (bkp BK167) hb); replace HB := bst hb; (try clear hb); (try clear hb2); (try clear hk); (try clear hi); obtain ⟨hcz59_0, hcz59_1, hfz59_0, hfz59_1⟩ := bc2 BK166; obtain ⟨hcz60_0, hcz60_1, hfz60_0, hfz60_1⟩ := bc2 BK167) | (go_at_call 24; (with_reducible refine (prefix_Covers.calls t161 t162 t163 t164 true _ A25.out).mono ?_); rintro e w61 ⟨rfl, hb⟩; replace BK165 := bkb BK165 hb; replace BK166 := bkb BK166 hb; replace BK167 := bkb BK167 hb; replace HB := bst hb; (try clear hb); (try clear hb2); (try clear hk); (try clear hi); obtain ⟨hcz62_0, hcz62_1, hfz62_0, hfz62_1⟩ := bc2 BK165; obtain ⟨hcz63_0, hcz63_1, hfz63_0, hfz63_1⟩ := bc2 BK167) | (go_at_call 24; (with_reducible refine (prefix_Covers.calls t159 t160 t163 t164 true _ A27.out).mono ?_); rintro e w64 ⟨rfl, hb⟩; replace BK165 := bkb BK165 hb; replace BK166 := bkb BK166 hb; replace BK167 := bkb BK167 hb; replace HB := bst hb; (try clear hb); (try clear hb2); (try clear hk); (try clear hi); obtain ⟨hcz65_0, hcz65_1, hfz65_0, hfz65_1⟩ := bc2 BK165; obtain ⟨hcz66_0, hcz66_1, hfz66_0, hfz66_1⟩ := bc2 BK166) | (go_at_call 24; (with_reducible refine (prefix_Covers.calls t159 t160 t161 t162 true _ A29.out).mono ?_); rintro e w67 ⟨rfl, hb⟩; replace BK165 := bkb BK165 hb; replace BK166 := bkb BK166 hb; replace BK167 := bkb BK167 hb; replace HB := bst hb; (try clear hb); (try clear hb2); (try clear hk); (try clear hi); obtain ⟨hcz68_0, hcz68_1, hfz68_0, hfz68_1⟩ := bc2 BK166; obtain ⟨hcz69_0, hcz69_1, hfz69_0, hfz69_1⟩ := bc2 BK165) | (go_at_call 24; (with_reducible refine (prefix_Covers.calls t161 t162 t159 t160 false _ A31.out).mono ?_); rintro e w70 ⟨rfl, hb⟩; replace BK165 := bkb BK165 hb; replace BK166 := bkb BK166 hb; replace BK167 := bkb BK167 hb; replace HB := bst hb; (try clear hb); (try clear hb2); (try clear hk); (try clear hi)))
        go_meet
        case rel => exact ⟨_, (false), (by first | rfl | (simp; done) | (simp [*]; done)), H', ⟨by first | omega | exact Nat.le_refl _⟩, ⟨bkq BK165⟩, ⟨bkq BK166⟩, ⟨bkq BK167⟩, ⟨by repeat (first | (with_reducible first | exact HB.out | apply below_alloc | apply pw_below_drewN | apply below_drew1 | refine below_set ?_ GE165.out | refine below_set ?_ GE166.out | refine below_set ?_ GE167.out) | exact HB.out)⟩⟩
      ·replace c30 := Bool.eq_false_iff.mpr c30
       subst c30
       have H1 : (maquettelaw05_PrefixOrder.j0 k false t159 t160 t161 t162 t163 t164) = some r := by rw [if_neg (show ¬ (false = true) by decide)] at H; exact H
       clear H
       have H := H1
       clear H1
       have H' := Aside0.mk H
       clear H
       have hnb71 := NB165_166.out
       have hnc71 := NB166_165.out
       have hnb72 := NB165_167.out
       have hnc72 := NB167_165.out
       obtain ⟨hcz73_0, hcz73_1, hfz73_0, hfz73_1⟩ := bc2 BK165
       have hnb74 := NB166_167.out
       have hnc74 := NB167_166.out
       obtain ⟨hcz75_0, hcz75_1, hfz75_0, hfz75_1⟩ := bc2 BK166
       go_wp2_with (first | ((with_reducible refine gate_dst (N := 20) rfl ?_); refine gl (some 20) Tryd.func24 #[.agg #[.int .u32 t159, .int .i64 t160], .agg #[.int .u32 t161, .int .i64 t162]] ?_; (with_reducible refine (prefix_Covers.calls t159 t160 t161 t162 true _ A23.out).mono ?_); rintro e w76 ⟨rfl, hb⟩; refine ⟨_, rfl, ?_⟩; replace BK165 := Aside0.mk (blk_below (g := gb165) (o := .cells #[.int .u32 t159, .int .i64 t160] 24 (0, 0)) (bkp BK165) hb); replace BK166 := Aside0.mk (blk_below (g := gb166) (o := .cells #[.int .u32 t161, .int .i64 t162] 24 (0, 0)) (bkp BK166) hb); replace BK167 := Aside0.mk (blk_below (g := gb167) (o := .cells #[.int .u32 t163, .int .i64 t164] 24 (0, 0)) (bkp BK167) hb); replace HB := bst hb; (try clear hb); (try clear hb2); (try clear hk); (try clear hi); obtain ⟨hcz77_0, hcz77_1, hfz77_0, hfz77_1⟩ := bc2 BK166; obtain ⟨hcz78_0, hcz78_1, hfz78_0, hfz78_1⟩ := bc2 BK167) | (go_at_call 24; (with_reducible refine (prefix_Covers.calls t161 t162 t163 t164 true _ A25.out).mono ?_); rintro e w79 ⟨rfl, hb⟩; replace BK165 := bkb BK165 hb; replace BK166 := bkb BK166 hb; replace BK167 := bkb BK167 hb; replace HB := bst hb; (try clear hb); (try clear hb2); (try clear hk); (try clear hi); obtain ⟨hcz80_0, hcz80_1, hfz80_0, hfz80_1⟩ := bc2 BK165; obtain ⟨hcz81_0, hcz81_1, hfz81_0, hfz81_1⟩ := bc2 BK167) | (go_at_call 24; (with_reducible refine (prefix_Covers.calls t159 t160 t163 t164 true _ A27.out).mono ?_); rintro e w82 ⟨rfl, hb⟩; replace BK165 := bkb BK165 hb; replace BK166 := bkb BK166 hb; replace BK167 := bkb BK167 hb; replace HB := bst hb; (try clear hb); (try clear hb2); (try clear hk); (try clear hi); obtain ⟨hcz83_0, hcz83_1, hfz83_0, hfz83_1⟩ := bc2 BK165; obtain ⟨hcz84_0, hcz84_1, hfz84_0, hfz84_1⟩ := bc2 BK166) | (go_at_call 24; (with_reducible refine (prefix_Covers.calls t159 t160 t161 t162 false _ A29.out).mono ?_); rintro e w85 ⟨rfl, hb⟩; replace BK165 := bkb BK165 hb; replace BK166 := bkb BK166 hb; replace BK167 := bkb BK167 hb; replace HB := bst hb; (try clear hb); (try clear hb2); (try clear hk); (try clear hi)))
       go_meet
       case rel => exact ⟨_, (false), (by first | rfl | (simp; done) | (simp [*]; done)), H', ⟨by first | omega | exact Nat.le_refl _⟩, ⟨bkq BK165⟩, ⟨bkq BK166⟩, ⟨bkq BK167⟩, ⟨by repeat (first | (with_reducible first | exact HB.out | apply below_alloc | apply pw_below_drewN | apply below_drew1 | refine below_set ?_ GE165.out | refine below_set ?_ GE166.out | refine below_set ?_ GE167.out) | exact HB.out)⟩⟩
     ·replace c28 := Bool.eq_false_iff.mpr c28
      subst c28
      have H1 : (maquettelaw05_PrefixOrder.j0 k true t159 t160 t161 t162 t163 t164) = some r := by rw [if_neg (show ¬ (false = true) by decide)] at H; exact H
      clear H
      have H := H1
      clear H1
      have H' := Aside0.mk H
      clear H
      have hnb86 := NB165_166.out
      have hnc86 := NB166_165.out
      have hnb87 := NB165_167.out
      have hnc87 := NB167_165.out
      obtain ⟨hcz88_0, hcz88_1, hfz88_0, hfz88_1⟩ := bc2 BK165
      have hnb89 := NB166_167.out
      have hnc89 := NB167_166.out
      obtain ⟨hcz90_0, hcz90_1, hfz90_0, hfz90_1⟩ := bc2 BK166
      go_wp2_with (first | ((with_reducible refine gate_dst (N := 20) rfl ?_); refine gl (some 20) Tryd.func24 #[.agg #[.int .u32 t159, .int .i64 t160], .agg #[.int .u32 t161, .int .i64 t162]] ?_; (with_reducible refine (prefix_Covers.calls t159 t160 t161 t162 true _ A23.out).mono ?_); rintro e w91 ⟨rfl, hb⟩; refine ⟨_, rfl, ?_⟩; replace BK165 := Aside0.mk (blk_below (g := gb165) (o := .cells #[.int .u32 t159, .int .i64 t160] 24 (0, 0)) (bkp BK165) hb); replace BK166 := Aside0.mk (blk_below (g := gb166) (o := .cells #[.int .u32 t161, .int .i64 t162] 24 (0, 0)) (bkp BK166) hb); replace BK167 := Aside0.mk (blk_below (g := gb167) (o := .cells #[.int .u32 t163, .int .i64 t164] 24 (0, 0)) (bkp BK167) hb); replace HB := bst hb; (try clear hb); (try clear hb2); (try clear hk); (try clear hi); obtain ⟨hcz92_0, hcz92_1, hfz92_0, hfz92_1⟩ := bc2 BK166; obtain ⟨hcz93_0, hcz93_1, hfz93_0, hfz93_1⟩ := bc2 BK167) | (go_at_call 24; (with_reducible refine (prefix_Covers.calls t161 t162 t163 t164 true _ A25.out).mono ?_); rintro e w94 ⟨rfl, hb⟩; replace BK165 := bkb BK165 hb; replace BK166 := bkb BK166 hb; replace BK167 := bkb BK167 hb; replace HB := bst hb; (try clear hb); (try clear hb2); (try clear hk); (try clear hi); obtain ⟨hcz95_0, hcz95_1, hfz95_0, hfz95_1⟩ := bc2 BK165; obtain ⟨hcz96_0, hcz96_1, hfz96_0, hfz96_1⟩ := bc2 BK167) | (go_at_call 24; (with_reducible refine (prefix_Covers.calls t159 t160 t163 t164 false _ A27.out).mono ?_); rintro e w97 ⟨rfl, hb⟩; replace BK165 := bkb BK165 hb; replace BK166 := bkb BK166 hb; replace BK167 := bkb BK167 hb; replace HB := bst hb; (try clear hb); (try clear hb2); (try clear hk); (try clear hi)))
      go_meet
      case rel => exact ⟨_, (true), (by first | rfl | (simp; done) | (simp [*]; done)), H', ⟨by first | omega | exact Nat.le_refl _⟩, ⟨bkq BK165⟩, ⟨bkq BK166⟩, ⟨bkq BK167⟩, ⟨by repeat (first | (with_reducible first | exact HB.out | apply below_alloc | apply pw_below_drewN | apply below_drew1 | refine below_set ?_ GE165.out | refine below_set ?_ GE166.out | refine below_set ?_ GE167.out) | exact HB.out)⟩⟩
    ·replace c26 := Bool.eq_false_iff.mpr c26
     subst c26
     have H1 : ((prefix_Covers.f t159 t160 t161 t162).bind fun t173 => (if t173 = true then ((prefix_Covers.f t161 t162 t159 t160).bind fun t174 => (if t174 = true then (maquettelaw05_PrefixOrder.j0 k (!(t159 == t161) || (!(t160 == t162))) t159 t160 t161 t162 t163 t164) else (maquettelaw05_PrefixOrder.j0 k false t159 t160 t161 t162 t163 t164))) else (maquettelaw05_PrefixOrder.j0 k false t159 t160 t161 t162 t163 t164))) = some r := by rw [if_neg (show ¬ (false = true) by decide)] at H; exact H
     clear H
     have H := H1
     clear H1
     replace H := Option.bind_eq_some_iff.mp H
     obtain ⟨t173, A980, H⟩ := H
     replace H : (if t173 = true then ((prefix_Covers.f t161 t162 t159 t160).bind fun t174 => (if t174 = true then (maquettelaw05_PrefixOrder.j0 k (!(t159 == t161) || (!(t160 == t162))) t159 t160 t161 t162 t163 t164) else (maquettelaw05_PrefixOrder.j0 k false t159 t160 t161 t162 t163 t164))) else (maquettelaw05_PrefixOrder.j0 k false t159 t160 t161 t162 t163 t164)) = some r := H
     have A98 := Aside0.mk A980
     clear A980
     by_cases c99 : t173 = true
     ·subst c99
      have H1 : ((prefix_Covers.f t161 t162 t159 t160).bind fun t174 => (if t174 = true then (maquettelaw05_PrefixOrder.j0 k (!(t159 == t161) || (!(t160 == t162))) t159 t160 t161 t162 t163 t164) else (maquettelaw05_PrefixOrder.j0 k false t159 t160 t161 t162 t163 t164))) = some r := by rw [if_pos rfl] at H; exact H
      clear H
      have H := H1
      clear H1
      replace H := Option.bind_eq_some_iff.mp H
      obtain ⟨t174, A1000, H⟩ := H
      replace H : (if t174 = true then (maquettelaw05_PrefixOrder.j0 k (!(t159 == t161) || (!(t160 == t162))) t159 t160 t161 t162 t163 t164) else (maquettelaw05_PrefixOrder.j0 k false t159 t160 t161 t162 t163 t164)) = some r := H
      have A100 := Aside0.mk A1000
      clear A1000
      by_cases c101 : t174 = true
      ·subst c101
       have H1 : (maquettelaw05_PrefixOrder.j0 k (!(t159 == t161) || (!(t160 == t162))) t159 t160 t161 t162 t163 t164) = some r := by rw [if_pos rfl] at H; exact H
       clear H
       have H := H1
       clear H1
       have H' := Aside0.mk H
       clear H
       have hnb102 := NB165_166.out
       have hnc102 := NB166_165.out
       have hnb103 := NB165_167.out
       have hnc103 := NB167_165.out
       obtain ⟨hcz104_0, hcz104_1, hfz104_0, hfz104_1⟩ := bc2 BK165
       have hnb105 := NB166_167.out
       have hnc105 := NB167_166.out
       obtain ⟨hcz106_0, hcz106_1, hfz106_0, hfz106_1⟩ := bc2 BK166
       go_wp2_with (first | ((with_reducible refine gate_dst (N := 20) rfl ?_); refine gl (some 20) Tryd.func24 #[.agg #[.int .u32 t159, .int .i64 t160], .agg #[.int .u32 t161, .int .i64 t162]] ?_; (with_reducible refine (prefix_Covers.calls t159 t160 t161 t162 true _ A23.out).mono ?_); rintro e w107 ⟨rfl, hb⟩; refine ⟨_, rfl, ?_⟩; replace BK165 := Aside0.mk (blk_below (g := gb165) (o := .cells #[.int .u32 t159, .int .i64 t160] 24 (0, 0)) (bkp BK165) hb); replace BK166 := Aside0.mk (blk_below (g := gb166) (o := .cells #[.int .u32 t161, .int .i64 t162] 24 (0, 0)) (bkp BK166) hb); replace BK167 := Aside0.mk (blk_below (g := gb167) (o := .cells #[.int .u32 t163, .int .i64 t164] 24 (0, 0)) (bkp BK167) hb); replace HB := bst hb; (try clear hb); (try clear hb2); (try clear hk); (try clear hi); obtain ⟨hcz108_0, hcz108_1, hfz108_0, hfz108_1⟩ := bc2 BK166; obtain ⟨hcz109_0, hcz109_1, hfz109_0, hfz109_1⟩ := bc2 BK167) | (go_at_call 24; (with_reducible refine (prefix_Covers.calls t161 t162 t163 t164 false _ A25.out).mono ?_); rintro e w110 ⟨rfl, hb⟩; replace BK165 := bkb BK165 hb; replace BK166 := bkb BK166 hb; replace BK167 := bkb BK167 hb; replace HB := bst hb; (try clear hb); (try clear hb2); (try clear hk); (try clear hi); obtain ⟨hcz111_0, hcz111_1, hfz111_0, hfz111_1⟩ := bc2 BK165; obtain ⟨hcz112_0, hcz112_1, hfz112_0, hfz112_1⟩ := bc2 BK166) | (go_at_call 24; (with_reducible refine (prefix_Covers.calls t159 t160 t161 t162 true _ A98.out).mono ?_); rintro e w113 ⟨rfl, hb⟩; replace BK165 := bkb BK165 hb; replace BK166 := bkb BK166 hb; replace BK167 := bkb BK167 hb; replace HB := bst hb; (try clear hb); (try clear hb2); (try clear hk); (try clear hi); obtain ⟨hcz114_0, hcz114_1, hfz114_0, hfz114_1⟩ := bc2 BK166; obtain ⟨hcz115_0, hcz115_1, hfz115_0, hfz115_1⟩ := bc2 BK165) | (go_at_call 24; (with_reducible refine (prefix_Covers.calls t161 t162 t159 t160 true _ A100.out).mono ?_); rintro e w116 ⟨rfl, hb⟩; replace BK165 := bkb BK165 hb; replace BK166 := bkb BK166 hb; replace BK167 := bkb BK167 hb; replace HB := bst hb; (try clear hb); (try clear hb2); (try clear hk); (try clear hi); obtain ⟨hcz117_0, hcz117_1, hfz117_0, hfz117_1⟩ := bc2 BK165; obtain ⟨hcz118_0, hcz118_1, hfz118_0, hfz118_1⟩ := bc2 BK166))
       go_meet
       case rel => exact ⟨_, ((!(t159 == t161) || (!(t160 == t162)))), (by first | rfl | (simp; done) | (simp [*]; done)), H', ⟨by first | omega | exact Nat.le_refl _⟩, ⟨bkq BK165⟩, ⟨bkq BK166⟩, ⟨bkq BK167⟩, ⟨by repeat (first | (with_reducible first | exact HB.out | apply below_alloc | apply pw_below_drewN | apply below_drew1 | refine below_set ?_ GE165.out | refine below_set ?_ GE166.out | refine below_set ?_ GE167.out) | exact HB.out)⟩⟩
      ·replace c101 := Bool.eq_false_iff.mpr c101
       subst c101
       have H1 : (maquettelaw05_PrefixOrder.j0 k false t159 t160 t161 t162 t163 t164) = some r := by rw [if_neg (show ¬ (false = true) by decide)] at H; exact H
       clear H
       have H := H1
       clear H1
       have H' := Aside0.mk H
       clear H
       have hnb119 := NB165_166.out
       have hnc119 := NB166_165.out
       have hnb120 := NB165_167.out
       have hnc120 := NB167_165.out
       obtain ⟨hcz121_0, hcz121_1, hfz121_0, hfz121_1⟩ := bc2 BK165
       have hnb122 := NB166_167.out
       have hnc122 := NB167_166.out
       obtain ⟨hcz123_0, hcz123_1, hfz123_0, hfz123_1⟩ := bc2 BK166
       go_wp2_with (first | ((with_reducible refine gate_dst (N := 20) rfl ?_); refine gl (some 20) Tryd.func24 #[.agg #[.int .u32 t159, .int .i64 t160], .agg #[.int .u32 t161, .int .i64 t162]] ?_; (with_reducible refine (prefix_Covers.calls t159 t160 t161 t162 true _ A23.out).mono ?_); rintro e w124 ⟨rfl, hb⟩; refine ⟨_, rfl, ?_⟩; replace BK165 := Aside0.mk (blk_below (g := gb165) (o := .cells #[.int .u32 t159, .int .i64 t160] 24 (0, 0)) (bkp BK165) hb); replace BK166 := Aside0.mk (blk_below (g := gb166) (o := .cells #[.int .u32 t161, .int .i64 t162] 24 (0, 0)) (bkp BK166) hb); replace BK167 := Aside0.mk (blk_below (g := gb167) (o := .cells #[.int .u32 t163, .int .i64 t164] 24 (0, 0)) (bkp BK167) hb); replace HB := bst hb; (try clear hb); (try clear hb2); (try clear hk); (try clear hi); obtain ⟨hcz125_0, hcz125_1, hfz125_0, hfz125_1⟩ := bc2 BK166; obtain ⟨hcz126_0, hcz126_1, hfz126_0, hfz126_1⟩ := bc2 BK167) | (go_at_call 24; (with_reducible refine (prefix_Covers.calls t161 t162 t163 t164 false _ A25.out).mono ?_); rintro e w127 ⟨rfl, hb⟩; replace BK165 := bkb BK165 hb; replace BK166 := bkb BK166 hb; replace BK167 := bkb BK167 hb; replace HB := bst hb; (try clear hb); (try clear hb2); (try clear hk); (try clear hi); obtain ⟨hcz128_0, hcz128_1, hfz128_0, hfz128_1⟩ := bc2 BK165; obtain ⟨hcz129_0, hcz129_1, hfz129_0, hfz129_1⟩ := bc2 BK166) | (go_at_call 24; (with_reducible refine (prefix_Covers.calls t159 t160 t161 t162 true _ A98.out).mono ?_); rintro e w130 ⟨rfl, hb⟩; replace BK165 := bkb BK165 hb; replace BK166 := bkb BK166 hb; replace BK167 := bkb BK167 hb; replace HB := bst hb; (try clear hb); (try clear hb2); (try clear hk); (try clear hi); obtain ⟨hcz131_0, hcz131_1, hfz131_0, hfz131_1⟩ := bc2 BK166; obtain ⟨hcz132_0, hcz132_1, hfz132_0, hfz132_1⟩ := bc2 BK165) | (go_at_call 24; (with_reducible refine (prefix_Covers.calls t161 t162 t159 t160 false _ A100.out).mono ?_); rintro e w133 ⟨rfl, hb⟩; replace BK165 := bkb BK165 hb; replace BK166 := bkb BK166 hb; replace BK167 := bkb BK167 hb; replace HB := bst hb; (try clear hb); (try clear hb2); (try clear hk); (try clear hi)))
       go_meet
       case rel => exact ⟨_, (false), (by first | rfl | (simp; done) | (simp [*]; done)), H', ⟨by first | omega | exact Nat.le_refl _⟩, ⟨bkq BK165⟩, ⟨bkq BK166⟩, ⟨bkq BK167⟩, ⟨by repeat (first | (with_reducible first | exact HB.out | apply below_alloc | apply pw_below_drewN | apply below_drew1 | refine below_set ?_ GE165.out | refine below_set ?_ GE166.out | refine below_set ?_ GE167.out) | exact HB.out)⟩⟩
     ·replace c99 := Bool.eq_false_iff.mpr c99
      subst c99
      have H1 : (maquettelaw05_PrefixOrder.j0 k false t159 t160 t161 t162 t163 t164) = some r := by rw [if_neg (show ¬ (false = true) by decide)] at H; exact H
      clear H
      have H := H1
      clear H1
      have H' := Aside0.mk H
      clear H
      have hnb134 := NB165_166.out
      have hnc134 := NB166_165.out
      have hnb135 := NB165_167.out
      have hnc135 := NB167_165.out
      obtain ⟨hcz136_0, hcz136_1, hfz136_0, hfz136_1⟩ := bc2 BK165
      have hnb137 := NB166_167.out
      have hnc137 := NB167_166.out
      obtain ⟨hcz138_0, hcz138_1, hfz138_0, hfz138_1⟩ := bc2 BK166
      go_wp2_with (first | ((with_reducible refine gate_dst (N := 20) rfl ?_); refine gl (some 20) Tryd.func24 #[.agg #[.int .u32 t159, .int .i64 t160], .agg #[.int .u32 t161, .int .i64 t162]] ?_; (with_reducible refine (prefix_Covers.calls t159 t160 t161 t162 true _ A23.out).mono ?_); rintro e w139 ⟨rfl, hb⟩; refine ⟨_, rfl, ?_⟩; replace BK165 := Aside0.mk (blk_below (g := gb165) (o := .cells #[.int .u32 t159, .int .i64 t160] 24 (0, 0)) (bkp BK165) hb); replace BK166 := Aside0.mk (blk_below (g := gb166) (o := .cells #[.int .u32 t161, .int .i64 t162] 24 (0, 0)) (bkp BK166) hb); replace BK167 := Aside0.mk (blk_below (g := gb167) (o := .cells #[.int .u32 t163, .int .i64 t164] 24 (0, 0)) (bkp BK167) hb); replace HB := bst hb; (try clear hb); (try clear hb2); (try clear hk); (try clear hi); obtain ⟨hcz140_0, hcz140_1, hfz140_0, hfz140_1⟩ := bc2 BK166; obtain ⟨hcz141_0, hcz141_1, hfz141_0, hfz141_1⟩ := bc2 BK167) | (go_at_call 24; (with_reducible refine (prefix_Covers.calls t161 t162 t163 t164 false _ A25.out).mono ?_); rintro e w142 ⟨rfl, hb⟩; replace BK165 := bkb BK165 hb; replace BK166 := bkb BK166 hb; replace BK167 := bkb BK167 hb; replace HB := bst hb; (try clear hb); (try clear hb2); (try clear hk); (try clear hi); obtain ⟨hcz143_0, hcz143_1, hfz143_0, hfz143_1⟩ := bc2 BK165; obtain ⟨hcz144_0, hcz144_1, hfz144_0, hfz144_1⟩ := bc2 BK166) | (go_at_call 24; (with_reducible refine (prefix_Covers.calls t159 t160 t161 t162 false _ A98.out).mono ?_); rintro e w145 ⟨rfl, hb⟩; replace BK165 := bkb BK165 hb; replace BK166 := bkb BK166 hb; replace BK167 := bkb BK167 hb; replace HB := bst hb; (try clear hb); (try clear hb2); (try clear hk); (try clear hi)))
      go_meet
      case rel => exact ⟨_, (false), (by first | rfl | (simp; done) | (simp [*]; done)), H', ⟨by first | omega | exact Nat.le_refl _⟩, ⟨bkq BK165⟩, ⟨bkq BK166⟩, ⟨bkq BK167⟩, ⟨by repeat (first | (with_reducible first | exact HB.out | apply below_alloc | apply pw_below_drewN | apply below_drew1 | refine below_set ?_ GE165.out | refine below_set ?_ GE166.out | refine below_set ?_ GE167.out) | exact HB.out)⟩⟩
   ·replace c24 := Bool.eq_false_iff.mpr c24
    subst c24
    have H1 : ((prefix_Covers.f t159 t160 t161 t162).bind fun t175 => (if t175 = true then ((prefix_Covers.f t161 t162 t159 t160).bind fun t176 => (if t176 = true then (maquettelaw05_PrefixOrder.j0 k (!(t159 == t161) || (!(t160 == t162))) t159 t160 t161 t162 t163 t164) else (maquettelaw05_PrefixOrder.j0 k false t159 t160 t161 t162 t163 t164))) else (maquettelaw05_PrefixOrder.j0 k false t159 t160 t161 t162 t163 t164))) = some r := by rw [if_neg (show ¬ (false = true) by decide)] at H; exact H
    clear H
    have H := H1
    clear H1
    replace H := Option.bind_eq_some_iff.mp H
    obtain ⟨t175, A1460, H⟩ := H
    replace H : (if t175 = true then ((prefix_Covers.f t161 t162 t159 t160).bind fun t176 => (if t176 = true then (maquettelaw05_PrefixOrder.j0 k (!(t159 == t161) || (!(t160 == t162))) t159 t160 t161 t162 t163 t164) else (maquettelaw05_PrefixOrder.j0 k false t159 t160 t161 t162 t163 t164))) else (maquettelaw05_PrefixOrder.j0 k false t159 t160 t161 t162 t163 t164)) = some r := H
    have A146 := Aside0.mk A1460
    clear A1460
    by_cases c147 : t175 = true
    ·subst c147
     have H1 : ((prefix_Covers.f t161 t162 t159 t160).bind fun t176 => (if t176 = true then (maquettelaw05_PrefixOrder.j0 k (!(t159 == t161) || (!(t160 == t162))) t159 t160 t161 t162 t163 t164) else (maquettelaw05_PrefixOrder.j0 k false t159 t160 t161 t162 t163 t164))) = some r := by rw [if_pos rfl] at H; exact H
     clear H
     have H := H1
     clear H1
     replace H := Option.bind_eq_some_iff.mp H
     obtain ⟨t176, A1480, H⟩ := H
     replace H : (if t176 = true then (maquettelaw05_PrefixOrder.j0 k (!(t159 == t161) || (!(t160 == t162))) t159 t160 t161 t162 t163 t164) else (maquettelaw05_PrefixOrder.j0 k false t159 t160 t161 t162 t163 t164)) = some r := H
     have A148 := Aside0.mk A1480
     clear A1480
     by_cases c149 : t176 = true
     ·subst c149
      have H1 : (maquettelaw05_PrefixOrder.j0 k (!(t159 == t161) || (!(t160 == t162))) t159 t160 t161 t162 t163 t164) = some r := by rw [if_pos rfl] at H; exact H
      clear H
      have H := H1
      clear H1
      have H' := Aside0.mk H
      clear H
      have hnb150 := NB165_166.out
      have hnc150 := NB166_165.out
      have hnb151 := NB165_167.out
      have hnc151 := NB167_165.out
      obtain ⟨hcz152_0, hcz152_1, hfz152_0, hfz152_1⟩ := bc2 BK165
      have hnb153 := NB166_167.out
      have hnc153 := NB167_166.out
      obtain ⟨hcz154_0, hcz154_1, hfz154_0, hfz154_1⟩ := bc2 BK166
      go_wp2_with (first | ((with_reducible refine gate_dst (N := 20) rfl ?_); refine gl (some 20) Tryd.func24 #[.agg #[.int .u32 t159, .int .i64 t160], .agg #[.int .u32 t161, .int .i64 t162]] ?_; (with_reducible refine (prefix_Covers.calls t159 t160 t161 t162 false _ A23.out).mono ?_); rintro e w155 ⟨rfl, hb⟩; refine ⟨_, rfl, ?_⟩; replace BK165 := Aside0.mk (blk_below (g := gb165) (o := .cells #[.int .u32 t159, .int .i64 t160] 24 (0, 0)) (bkp BK165) hb); replace BK166 := Aside0.mk (blk_below (g := gb166) (o := .cells #[.int .u32 t161, .int .i64 t162] 24 (0, 0)) (bkp BK166) hb); replace BK167 := Aside0.mk (blk_below (g := gb167) (o := .cells #[.int .u32 t163, .int .i64 t164] 24 (0, 0)) (bkp BK167) hb); replace HB := bst hb; (try clear hb); (try clear hb2); (try clear hk); (try clear hi); obtain ⟨hcz156_0, hcz156_1, hfz156_0, hfz156_1⟩ := bc2 BK165; obtain ⟨hcz157_0, hcz157_1, hfz157_0, hfz157_1⟩ := bc2 BK166) | (go_at_call 24; (with_reducible refine (prefix_Covers.calls t159 t160 t161 t162 true _ A146.out).mono ?_); rintro e w158 ⟨rfl, hb⟩; replace BK165 := bkb BK165 hb; replace BK166 := bkb BK166 hb; replace BK167 := bkb BK167 hb; replace HB := bst hb; (try clear hb); (try clear hb2); (try clear hk); (try clear hi); obtain ⟨hcz159_0, hcz159_1, hfz159_0, hfz159_1⟩ := bc2 BK166; obtain ⟨hcz160_0, hcz160_1, hfz160_0, hfz160_1⟩ := bc2 BK165) | (go_at_call 24; (with_reducible refine (prefix_Covers.calls t161 t162 t159 t160 true _ A148.out).mono ?_); rintro e w161 ⟨rfl, hb⟩; replace BK165 := bkb BK165 hb; replace BK166 := bkb BK166 hb; replace BK167 := bkb BK167 hb; replace HB := bst hb; (try clear hb); (try clear hb2); (try clear hk); (try clear hi); obtain ⟨hcz162_0, hcz162_1, hfz162_0, hfz162_1⟩ := bc2 BK165; obtain ⟨hcz163_0, hcz163_1, hfz163_0, hfz163_1⟩ := bc2 BK166))
      go_meet
      case rel => exact ⟨_, ((!(t159 == t161) || (!(t160 == t162)))), (by first | rfl | (simp; done) | (simp [*]; done)), H', ⟨by first | omega | exact Nat.le_refl _⟩, ⟨bkq BK165⟩, ⟨bkq BK166⟩, ⟨bkq BK167⟩, ⟨by repeat (first | (with_reducible first | exact HB.out | apply below_alloc | apply pw_below_drewN | apply below_drew1 | refine below_set ?_ GE165.out | refine below_set ?_ GE166.out | refine below_set ?_ GE167.out) | exact HB.out)⟩⟩
     ·replace c149 := Bool.eq_false_iff.mpr c149
      subst c149
      have H1 : (maquettelaw05_PrefixOrder.j0 k false t159 t160 t161 t162 t163 t164) = some r := by rw [if_neg (show ¬ (false = true) by decide)] at H; exact H
      clear H
      have H := H1
      clear H1
      have H' := Aside0.mk H
      clear H
      have hnb164 := NB165_166.out
      have hnc164 := NB166_165.out
      have hnb165 := NB165_167.out
      have hnc165 := NB167_165.out
      obtain ⟨hcz166_0, hcz166_1, hfz166_0, hfz166_1⟩ := bc2 BK165
      have hnb167 := NB166_167.out
      have hnc167 := NB167_166.out
      obtain ⟨hcz168_0, hcz168_1, hfz168_0, hfz168_1⟩ := bc2 BK166
      go_wp2_with (first | ((with_reducible refine gate_dst (N := 20) rfl ?_); refine gl (some 20) Tryd.func24 #[.agg #[.int .u32 t159, .int .i64 t160], .agg #[.int .u32 t161, .int .i64 t162]] ?_; (with_reducible refine (prefix_Covers.calls t159 t160 t161 t162 false _ A23.out).mono ?_); rintro e w169 ⟨rfl, hb⟩; refine ⟨_, rfl, ?_⟩; replace BK165 := Aside0.mk (blk_below (g := gb165) (o := .cells #[.int .u32 t159, .int .i64 t160] 24 (0, 0)) (bkp BK165) hb); replace BK166 := Aside0.mk (blk_below (g := gb166) (o := .cells #[.int .u32 t161, .int .i64 t162] 24 (0, 0)) (bkp BK166) hb); replace BK167 := Aside0.mk (blk_below (g := gb167) (o := .cells #[.int .u32 t163, .int .i64 t164] 24 (0, 0)) (bkp BK167) hb); replace HB := bst hb; (try clear hb); (try clear hb2); (try clear hk); (try clear hi); obtain ⟨hcz170_0, hcz170_1, hfz170_0, hfz170_1⟩ := bc2 BK165; obtain ⟨hcz171_0, hcz171_1, hfz171_0, hfz171_1⟩ := bc2 BK166) | (go_at_call 24; (with_reducible refine (prefix_Covers.calls t159 t160 t161 t162 true _ A146.out).mono ?_); rintro e w172 ⟨rfl, hb⟩; replace BK165 := bkb BK165 hb; replace BK166 := bkb BK166 hb; replace BK167 := bkb BK167 hb; replace HB := bst hb; (try clear hb); (try clear hb2); (try clear hk); (try clear hi); obtain ⟨hcz173_0, hcz173_1, hfz173_0, hfz173_1⟩ := bc2 BK166; obtain ⟨hcz174_0, hcz174_1, hfz174_0, hfz174_1⟩ := bc2 BK165) | (go_at_call 24; (with_reducible refine (prefix_Covers.calls t161 t162 t159 t160 false _ A148.out).mono ?_); rintro e w175 ⟨rfl, hb⟩; replace BK165 := bkb BK165 hb; replace BK166 := bkb BK166 hb; replace BK167 := bkb BK167 hb; replace HB := bst hb; (try clear hb); (try clear hb2); (try clear hk); (try clear hi)))
      go_meet
      case rel => exact ⟨_, (false), (by first | rfl | (simp; done) | (simp [*]; done)), H', ⟨by first | omega | exact Nat.le_refl _⟩, ⟨bkq BK165⟩, ⟨bkq BK166⟩, ⟨bkq BK167⟩, ⟨by repeat (first | (with_reducible first | exact HB.out | apply below_alloc | apply pw_below_drewN | apply below_drew1 | refine below_set ?_ GE165.out | refine below_set ?_ GE166.out | refine below_set ?_ GE167.out) | exact HB.out)⟩⟩
    ·replace c147 := Bool.eq_false_iff.mpr c147
     subst c147
     have H1 : (maquettelaw05_PrefixOrder.j0 k false t159 t160 t161 t162 t163 t164) = some r := by rw [if_neg (show ¬ (false = true) by decide)] at H; exact H
     clear H
     have H := H1
     clear H1
     have H' := Aside0.mk H
     clear H
     have hnb176 := NB165_166.out
     have hnc176 := NB166_165.out
     have hnb177 := NB165_167.out
     have hnc177 := NB167_165.out
     obtain ⟨hcz178_0, hcz178_1, hfz178_0, hfz178_1⟩ := bc2 BK165
     have hnb179 := NB166_167.out
     have hnc179 := NB167_166.out
     obtain ⟨hcz180_0, hcz180_1, hfz180_0, hfz180_1⟩ := bc2 BK166
     go_wp2_with (first | ((with_reducible refine gate_dst (N := 20) rfl ?_); refine gl (some 20) Tryd.func24 #[.agg #[.int .u32 t159, .int .i64 t160], .agg #[.int .u32 t161, .int .i64 t162]] ?_; (with_reducible refine (prefix_Covers.calls t159 t160 t161 t162 false _ A23.out).mono ?_); rintro e w181 ⟨rfl, hb⟩; refine ⟨_, rfl, ?_⟩; replace BK165 := Aside0.mk (blk_below (g := gb165) (o := .cells #[.int .u32 t159, .int .i64 t160] 24 (0, 0)) (bkp BK165) hb); replace BK166 := Aside0.mk (blk_below (g := gb166) (o := .cells #[.int .u32 t161, .int .i64 t162] 24 (0, 0)) (bkp BK166) hb); replace BK167 := Aside0.mk (blk_below (g := gb167) (o := .cells #[.int .u32 t163, .int .i64 t164] 24 (0, 0)) (bkp BK167) hb); replace HB := bst hb; (try clear hb); (try clear hb2); (try clear hk); (try clear hi); obtain ⟨hcz182_0, hcz182_1, hfz182_0, hfz182_1⟩ := bc2 BK165; obtain ⟨hcz183_0, hcz183_1, hfz183_0, hfz183_1⟩ := bc2 BK166) | (go_at_call 24; (with_reducible refine (prefix_Covers.calls t159 t160 t161 t162 false _ A146.out).mono ?_); rintro e w184 ⟨rfl, hb⟩; replace BK165 := bkb BK165 hb; replace BK166 := bkb BK166 hb; replace BK167 := bkb BK167 hb; replace HB := bst hb; (try clear hb); (try clear hb2); (try clear hk); (try clear hi)))
     go_meet
     case rel => exact ⟨_, (false), (by first | rfl | (simp; done) | (simp [*]; done)), H', ⟨by first | omega | exact Nat.le_refl _⟩, ⟨bkq BK165⟩, ⟨bkq BK166⟩, ⟨bkq BK167⟩, ⟨by repeat (first | (with_reducible first | exact HB.out | apply below_alloc | apply pw_below_drewN | apply below_drew1 | refine below_set ?_ GE165.out | refine below_set ?_ GE166.out | refine below_set ?_ GE167.out) | exact HB.out)⟩⟩
  case rest =>
   clear HC9
   try clear c1
   try clear c2
   try clear p2
   try clear c3
   try clear c5
   try clear c7
   try clear c8
   try clear c9
   try clear c10
   try clear c11
   try clear c12
   try clear c13
   try clear c14
   try clear c15
   try clear c16
   try clear c17
   try clear c18
   try clear c19
   try clear c20
   try clear c24
   try clear c26
   try clear c28
   try clear c30
   try clear c32
   try clear c33
   try clear c34
   try clear c36
   try clear c53
   try clear c54
   try clear c56
   try clear c71
   try clear c72
   try clear c74
   try clear c86
   try clear c87
   try clear c89
   try clear c99
   try clear c101
   try clear c102
   try clear c103
   try clear c105
   try clear c119
   try clear c120
   try clear c122
   try clear c134
   try clear c135
   try clear c137
   try clear c147
   try clear c149
   try clear c150
   try clear c151
   try clear c153
   try clear c164
   try clear c165
   try clear c167
   try clear c176
   try clear c177
   try clear c179
   try clear hcz104_0 hcz104_1 hfz104_0 hfz104_1
   try clear hcz106_0 hcz106_1 hfz106_0 hfz106_1
   try clear hcz108_0 hcz108_1 hfz108_0 hfz108_1
   try clear hcz109_0 hcz109_1 hfz109_0 hfz109_1
   try clear hcz111_0 hcz111_1 hfz111_0 hfz111_1
   try clear hcz112_0 hcz112_1 hfz112_0 hfz112_1
   try clear hcz114_0 hcz114_1 hfz114_0 hfz114_1
   try clear hcz115_0 hcz115_1 hfz115_0 hfz115_1
   try clear hcz117_0 hcz117_1 hfz117_0 hfz117_1
   try clear hcz118_0 hcz118_1 hfz118_0 hfz118_1
   try clear hcz121_0 hcz121_1 hfz121_0 hfz121_1
   try clear hcz123_0 hcz123_1 hfz123_0 hfz123_1
   try clear hcz125_0 hcz125_1 hfz125_0 hfz125_1
   try clear hcz126_0 hcz126_1 hfz126_0 hfz126_1
   try clear hcz128_0 hcz128_1 hfz128_0 hfz128_1
   try clear hcz129_0 hcz129_1 hfz129_0 hfz129_1
   try clear hcz131_0 hcz131_1 hfz131_0 hfz131_1
   try clear hcz132_0 hcz132_1 hfz132_0 hfz132_1
   try clear hcz136_0 hcz136_1 hfz136_0 hfz136_1
   try clear hcz138_0 hcz138_1 hfz138_0 hfz138_1
   try clear hcz140_0 hcz140_1 hfz140_0 hfz140_1
   try clear hcz141_0 hcz141_1 hfz141_0 hfz141_1
   try clear hcz143_0 hcz143_1 hfz143_0 hfz143_1
   try clear hcz144_0 hcz144_1 hfz144_0 hfz144_1
   try clear hcz152_0 hcz152_1 hfz152_0 hfz152_1
   try clear hcz154_0 hcz154_1 hfz154_0 hfz154_1
   try clear hcz156_0 hcz156_1 hfz156_0 hfz156_1
   try clear hcz157_0 hcz157_1 hfz157_0 hfz157_1
   try clear hcz159_0 hcz159_1 hfz159_0 hfz159_1
   try clear hcz160_0 hcz160_1 hfz160_0 hfz160_1
   try clear hcz162_0 hcz162_1 hfz162_0 hfz162_1
   try clear hcz163_0 hcz163_1 hfz163_0 hfz163_1
   try clear hcz166_0 hcz166_1 hfz166_0 hfz166_1
   try clear hcz168_0 hcz168_1 hfz168_0 hfz168_1
   try clear hcz170_0 hcz170_1 hfz170_0 hfz170_1
   try clear hcz171_0 hcz171_1 hfz171_0 hfz171_1
   try clear hcz173_0 hcz173_1 hfz173_0 hfz173_1
   try clear hcz174_0 hcz174_1 hfz174_0 hfz174_1
   try clear hcz178_0 hcz178_1 hfz178_0 hfz178_1
   try clear hcz180_0 hcz180_1 hfz180_0 hfz180_1
   try clear hcz182_0 hcz182_1 hfz182_0 hfz182_1
   try clear hcz183_0 hcz183_1 hfz183_0 hfz183_1
   try clear hcz19_0 hcz19_1 hfz19_0 hfz19_1
   try clear hcz21_0 hcz21_1 hfz21_0 hfz21_1
   try clear hcz22_0 hcz22_1 hfz22_0 hfz22_1
   try clear hcz35_0 hcz35_1 hfz35_0 hfz35_1
   try clear hcz37_0 hcz37_1 hfz37_0 hfz37_1
   try clear hcz39_0 hcz39_1 hfz39_0 hfz39_1
   try clear hcz40_0 hcz40_1 hfz40_0 hfz40_1
   try clear hcz42_0 hcz42_1 hfz42_0 hfz42_1
   try clear hcz43_0 hcz43_1 hfz43_0 hfz43_1
   try clear hcz45_0 hcz45_1 hfz45_0 hfz45_1
   try clear hcz46_0 hcz46_1 hfz46_0 hfz46_1
   try clear hcz48_0 hcz48_1 hfz48_0 hfz48_1
   try clear hcz49_0 hcz49_1 hfz49_0 hfz49_1
   try clear hcz51_0 hcz51_1 hfz51_0 hfz51_1
   try clear hcz52_0 hcz52_1 hfz52_0 hfz52_1
   try clear hcz55_0 hcz55_1 hfz55_0 hfz55_1
   try clear hcz57_0 hcz57_1 hfz57_0 hfz57_1
   try clear hcz59_0 hcz59_1 hfz59_0 hfz59_1
   try clear hcz60_0 hcz60_1 hfz60_0 hfz60_1
   try clear hcz62_0 hcz62_1 hfz62_0 hfz62_1
   try clear hcz63_0 hcz63_1 hfz63_0 hfz63_1
   try clear hcz65_0 hcz65_1 hfz65_0 hfz65_1
   try clear hcz66_0 hcz66_1 hfz66_0 hfz66_1
   try clear hcz68_0 hcz68_1 hfz68_0 hfz68_1
   try clear hcz69_0 hcz69_1 hfz69_0 hfz69_1
   try clear hcz73_0 hcz73_1 hfz73_0 hfz73_1
   try clear hcz75_0 hcz75_1 hfz75_0 hfz75_1
   try clear hcz77_0 hcz77_1 hfz77_0 hfz77_1
   try clear hcz78_0 hcz78_1 hfz78_0 hfz78_1
   try clear hcz80_0 hcz80_1 hfz80_0 hfz80_1
   try clear hcz81_0 hcz81_1 hfz81_0 hfz81_1
   try clear hcz83_0 hcz83_1 hfz83_0 hfz83_1
   try clear hcz84_0 hcz84_1 hfz84_0 hfz84_1
   try clear hcz88_0 hcz88_1 hfz88_0 hfz88_1
   try clear hcz90_0 hcz90_1 hfz90_0 hfz90_1
   try clear hcz92_0 hcz92_1 hfz92_0 hfz92_1
   try clear hcz93_0 hcz93_1 hfz93_0 hfz93_1
   try clear hcz95_0 hcz95_1 hfz95_0 hfz95_1
   try clear hcz96_0 hcz96_1 hfz96_0 hfz96_1
   obtain ⟨kq, x46_8, rfl, HA, HJ8, BK165, BK166, BK167, HB⟩ := hcut
   cases kq with
   | zero => exact absurd HA.out (by simp [maquettelaw05_PrefixOrder.j0])
   | succ kj8 =>
    have H := HA.out
    clear HA
    simp only [maquettelaw05_PrefixOrder.j0] at H
    by_cases c185 : x46_8 = true
    ·subst c185
     have H1 : (some false) = some r := by rw [if_pos rfl] at H; exact H
     clear H
     have H := H1
     clear H1
     obtain rfl := Option.some.inj H
     go_wp2
     go_ret
     exact ⟨by first | rfl | (simp [errW_none, errW_some] <;> rfl) | (simp [*, errW_none, errW_some] <;> rfl), by repeat (first | (with_reducible first | exact HB.out | apply below_alloc | apply pw_below_drewN | apply below_drew1 | refine below_set ?_ GE165.out | refine below_set ?_ GE166.out | refine below_set ?_ GE167.out) | exact HB.out)⟩
    ·replace c185 := Bool.eq_false_iff.mpr c185
     subst c185
     have H1 : ((prefix_Less.f t159 t160 t161 t162).bind fun t177 => (if t177 = true then ((prefix_Less.f t161 t162 t163 t164).bind fun t178 => (if t178 = true then ((prefix_Less.f t159 t160 t163 t164).bind fun t179 => (if t179 = true then ((prefix_Less.f t159 t160 t159 t160).bind fun t180 => (maquettelaw05_PrefixOrder.j1 kj8 t180 t159 t160 t161 t162)) else (maquettelaw05_PrefixOrder.j1 kj8 true t159 t160 t161 t162))) else ((prefix_Less.f t159 t160 t159 t160).bind fun t181 => (maquettelaw05_PrefixOrder.j1 kj8 t181 t159 t160 t161 t162)))) else ((prefix_Less.f t159 t160 t159 t160).bind fun t182 => (maquettelaw05_PrefixOrder.j1 kj8 t182 t159 t160 t161 t162)))) = some r := by rw [if_neg (show ¬ (false = true) by decide)] at H; exact H
     clear H
     have H := H1
     clear H1
     have HC186 := Aside0.mk H
     clear H
     go_upto_region 6 with (fail)
     go_cut [65] (fun v65 wc => ∃ (kq : Nat) (x65_185 : Bool), v65 = .bool x65_185 ∧ Aside0 (maquettelaw05_PrefixOrder.j1 kq x65_185 t159 t160 t161 t162 = some r) ∧ Aside0 (kq ≤ kj8) ∧ Aside0 (wc.heap[gb165]? = some (.cells #[.int .u32 t159, .int .i64 t160] 24 (0, 0))) ∧ Aside0 (wc.heap[gb166]? = some (.cells #[.int .u32 t161, .int .i64 t162] 24 (0, 0))) ∧ Aside0 (wc.heap[gb167]? = some (.cells #[.int .u32 t163, .int .i64 t164] 24 (0, 0))) ∧ Aside0 (Below w.heap.size w wc))
     case first =>
      have H := HC186.out
      clear HC186
      replace H := Option.bind_eq_some_iff.mp H
      obtain ⟨t177, A1870, H⟩ := H
      replace H : (if t177 = true then ((prefix_Less.f t161 t162 t163 t164).bind fun t178 => (if t178 = true then ((prefix_Less.f t159 t160 t163 t164).bind fun t179 => (if t179 = true then ((prefix_Less.f t159 t160 t159 t160).bind fun t180 => (maquettelaw05_PrefixOrder.j1 kj8 t180 t159 t160 t161 t162)) else (maquettelaw05_PrefixOrder.j1 kj8 true t159 t160 t161 t162))) else ((prefix_Less.f t159 t160 t159 t160).bind fun t181 => (maquettelaw05_PrefixOrder.j1 kj8 t181 t159 t160 t161 t162)))) else ((prefix_Less.f t159 t160 t159 t160).bind fun t182 => (maquettelaw05_PrefixOrder.j1 kj8 t182 t159 t160 t161 t162))) = some r := H
      have A187 := Aside0.mk A1870
      clear A1870
      by_cases c188 : t177 = true
      ·subst c188
       have H1 : ((prefix_Less.f t161 t162 t163 t164).bind fun t178 => (if t178 = true then ((prefix_Less.f t159 t160 t163 t164).bind fun t179 => (if t179 = true then ((prefix_Less.f t159 t160 t159 t160).bind fun t180 => (maquettelaw05_PrefixOrder.j1 kj8 t180 t159 t160 t161 t162)) else (maquettelaw05_PrefixOrder.j1 kj8 true t159 t160 t161 t162))) else ((prefix_Less.f t159 t160 t159 t160).bind fun t181 => (maquettelaw05_PrefixOrder.j1 kj8 t181 t159 t160 t161 t162)))) = some r := by rw [if_pos rfl] at H; exact H
       clear H
       have H := H1
       clear H1
       replace H := Option.bind_eq_some_iff.mp H
       obtain ⟨t178, A1890, H⟩ := H
       replace H : (if t178 = true then ((prefix_Less.f t159 t160 t163 t164).bind fun t179 => (if t179 = true then ((prefix_Less.f t159 t160 t159 t160).bind fun t180 => (maquettelaw05_PrefixOrder.j1 kj8 t180 t159 t160 t161 t162)) else (maquettelaw05_PrefixOrder.j1 kj8 true t159 t160 t161 t162))) else ((prefix_Less.f t159 t160 t159 t160).bind fun t181 => (maquettelaw05_PrefixOrder.j1 kj8 t181 t159 t160 t161 t162))) = some r := H
       have A189 := Aside0.mk A1890
       clear A1890
       by_cases c190 : t178 = true
       ·subst c190
        have H1 : ((prefix_Less.f t159 t160 t163 t164).bind fun t179 => (if t179 = true then ((prefix_Less.f t159 t160 t159 t160).bind fun t180 => (maquettelaw05_PrefixOrder.j1 kj8 t180 t159 t160 t161 t162)) else (maquettelaw05_PrefixOrder.j1 kj8 true t159 t160 t161 t162))) = some r := by rw [if_pos rfl] at H; exact H
        clear H
        have H := H1
        clear H1
        replace H := Option.bind_eq_some_iff.mp H
        obtain ⟨t179, A1910, H⟩ := H
        replace H : (if t179 = true then ((prefix_Less.f t159 t160 t159 t160).bind fun t180 => (maquettelaw05_PrefixOrder.j1 kj8 t180 t159 t160 t161 t162)) else (maquettelaw05_PrefixOrder.j1 kj8 true t159 t160 t161 t162)) = some r := H
        have A191 := Aside0.mk A1910
        clear A1910
        by_cases c192 : t179 = true
        ·subst c192
         have H1 : ((prefix_Less.f t159 t160 t159 t160).bind fun t180 => (maquettelaw05_PrefixOrder.j1 kj8 t180 t159 t160 t161 t162)) = some r := by rw [if_pos rfl] at H; exact H
         clear H
         have H := H1
         clear H1
         replace H := Option.bind_eq_some_iff.mp H
         obtain ⟨t180, A1930, H⟩ := H
         replace H : (maquettelaw05_PrefixOrder.j1 kj8 t180 t159 t160 t161 t162) = some r := H
         have A193 := Aside0.mk A1930
         clear A1930
         have H' := Aside0.mk H
         clear H
         have hnb194 := NB165_166.out
         have hnc194 := NB166_165.out
         have hnb195 := NB165_167.out
         have hnc195 := NB167_165.out
         obtain ⟨hcz196_0, hcz196_1, hfz196_0, hfz196_1⟩ := bc2 BK165
         have hnb197 := NB166_167.out
         have hnc197 := NB167_166.out
         obtain ⟨hcz198_0, hcz198_1, hfz198_0, hfz198_1⟩ := bc2 BK166
         go_wp2_with (first | ((with_reducible refine gate_dst (N := 49) rfl ?_); refine gl (some 49) Tryd.func25 #[.agg #[.int .u32 t159, .int .i64 t160], .agg #[.int .u32 t161, .int .i64 t162]] ?_; (with_reducible refine (prefix_Less.calls t159 t160 t161 t162 true _ A187.out).mono ?_); rintro e w199 ⟨rfl, hb⟩; refine ⟨_, rfl, ?_⟩; replace BK165 := bkb BK165 hb; replace BK166 := bkb BK166 hb; replace BK167 := bkb BK167 hb; replace HB := bst hb; (try clear hb); (try clear hb2); (try clear hk); (try clear hi); obtain ⟨hcz200_0, hcz200_1, hfz200_0, hfz200_1⟩ := bc2 BK166; obtain ⟨hcz201_0, hcz201_1, hfz201_0, hfz201_1⟩ := bc2 BK167) | (go_at_call 25; (with_reducible refine (prefix_Less.calls t161 t162 t163 t164 true _ A189.out).mono ?_); rintro e w202 ⟨rfl, hb⟩; replace BK165 := bkb BK165 hb; replace BK166 := bkb BK166 hb; replace BK167 := bkb BK167 hb; replace HB := bst hb; (try clear hb); (try clear hb2); (try clear hk); (try clear hi); obtain ⟨hcz203_0, hcz203_1, hfz203_0, hfz203_1⟩ := bc2 BK165; obtain ⟨hcz204_0, hcz204_1, hfz204_0, hfz204_1⟩ := bc2 BK167) | (go_at_call 25; (with_reducible refine (prefix_Less.calls t159 t160 t163 t164 true _ A191.out).mono ?_); rintro e w205 ⟨rfl, hb⟩; replace BK165 := bkb BK165 hb; replace BK166 := bkb BK166 hb; replace BK167 := bkb BK167 hb; replace HB := bst hb; (try clear hb); (try clear hb2); (try clear hk); (try clear hi); obtain ⟨hcz206_0, hcz206_1, hfz206_0, hfz206_1⟩ := bc2 BK165) | (go_at_call 25; (with_reducible refine (prefix_Less.calls t159 t160 t159 t160 t180 _ A193.out).mono ?_); rintro e w207 ⟨rfl, hb⟩; replace BK165 := bkb BK165 hb; replace BK166 := bkb BK166 hb; replace BK167 := bkb BK167 hb; replace HB := bst hb; (try clear hb); (try clear hb2); (try clear hk); (try clear hi)))
         go_meet
         case rel => exact ⟨_, (t180), (by first | rfl | (simp; done) | (simp [*]; done)), H', ⟨by have := HJ8.out; first | omega | exact Nat.le_refl _⟩, ⟨bkq BK165⟩, ⟨bkq BK166⟩, ⟨bkq BK167⟩, ⟨by repeat (first | (with_reducible first | exact HB.out | apply below_alloc | apply pw_below_drewN | apply below_drew1 | refine below_set ?_ GE165.out | refine below_set ?_ GE166.out | refine below_set ?_ GE167.out) | exact HB.out)⟩⟩
        ·replace c192 := Bool.eq_false_iff.mpr c192
         subst c192
         have H1 : (maquettelaw05_PrefixOrder.j1 kj8 true t159 t160 t161 t162) = some r := by rw [if_neg (show ¬ (false = true) by decide)] at H; exact H
         clear H
         have H := H1
         clear H1
         have H' := Aside0.mk H
         clear H
         have hnb208 := NB165_166.out
         have hnc208 := NB166_165.out
         have hnb209 := NB165_167.out
         have hnc209 := NB167_165.out
         obtain ⟨hcz210_0, hcz210_1, hfz210_0, hfz210_1⟩ := bc2 BK165
         have hnb211 := NB166_167.out
         have hnc211 := NB167_166.out
         obtain ⟨hcz212_0, hcz212_1, hfz212_0, hfz212_1⟩ := bc2 BK166
         go_wp2_with (first | ((with_reducible refine gate_dst (N := 49) rfl ?_); refine gl (some 49) Tryd.func25 #[.agg #[.int .u32 t159, .int .i64 t160], .agg #[.int .u32 t161, .int .i64 t162]] ?_; (with_reducible refine (prefix_Less.calls t159 t160 t161 t162 true _ A187.out).mono ?_); rintro e w213 ⟨rfl, hb⟩; refine ⟨_, rfl, ?_⟩; replace BK165 := bkb BK165 hb; replace BK166 := bkb BK166 hb; replace BK167 := bkb BK167 hb; replace HB := bst hb; (try clear hb); (try clear hb2); (try clear hk); (try clear hi); obtain ⟨hcz214_0, hcz214_1, hfz214_0, hfz214_1⟩ := bc2 BK166; obtain ⟨hcz215_0, hcz215_1, hfz215_0, hfz215_1⟩ := bc2 BK167) | (go_at_call 25; (with_reducible refine (prefix_Less.calls t161 t162 t163 t164 true _ A189.out).mono ?_); rintro e w216 ⟨rfl, hb⟩; replace BK165 := bkb BK165 hb; replace BK166 := bkb BK166 hb; replace BK167 := bkb BK167 hb; replace HB := bst hb; (try clear hb); (try clear hb2); (try clear hk); (try clear hi); obtain ⟨hcz217_0, hcz217_1, hfz217_0, hfz217_1⟩ := bc2 BK165; obtain ⟨hcz218_0, hcz218_1, hfz218_0, hfz218_1⟩ := bc2 BK167) | (go_at_call 25; (with_reducible refine (prefix_Less.calls t159 t160 t163 t164 false _ A191.out).mono ?_); rintro e w219 ⟨rfl, hb⟩; replace BK165 := bkb BK165 hb; replace BK166 := bkb BK166 hb; replace BK167 := bkb BK167 hb; replace HB := bst hb; (try clear hb); (try clear hb2); (try clear hk); (try clear hi)))
         go_meet
         case rel => exact ⟨_, (true), (by first | rfl | (simp; done) | (simp [*]; done)), H', ⟨by have := HJ8.out; first | omega | exact Nat.le_refl _⟩, ⟨bkq BK165⟩, ⟨bkq BK166⟩, ⟨bkq BK167⟩, ⟨by repeat (first | (with_reducible first | exact HB.out | apply below_alloc | apply pw_below_drewN | apply below_drew1 | refine below_set ?_ GE165.out | refine below_set ?_ GE166.out | refine below_set ?_ GE167.out) | exact HB.out)⟩⟩
       ·replace c190 := Bool.eq_false_iff.mpr c190
        subst c190
        have H1 : ((prefix_Less.f t159 t160 t159 t160).bind fun t181 => (maquettelaw05_PrefixOrder.j1 kj8 t181 t159 t160 t161 t162)) = some r := by rw [if_neg (show ¬ (false = true) by decide)] at H; exact H
        clear H
        have H := H1
        clear H1
        replace H := Option.bind_eq_some_iff.mp H
        obtain ⟨t181, A2200, H⟩ := H
        replace H : (maquettelaw05_PrefixOrder.j1 kj8 t181 t159 t160 t161 t162) = some r := H
        have A220 := Aside0.mk A2200
        clear A2200
        have H' := Aside0.mk H
        clear H
        have hnb221 := NB165_166.out
        have hnc221 := NB166_165.out
        have hnb222 := NB165_167.out
        have hnc222 := NB167_165.out
        obtain ⟨hcz223_0, hcz223_1, hfz223_0, hfz223_1⟩ := bc2 BK165
        have hnb224 := NB166_167.out
        have hnc224 := NB167_166.out
        obtain ⟨hcz225_0, hcz225_1, hfz225_0, hfz225_1⟩ := bc2 BK166
        go_wp2_with (first | ((with_reducible refine gate_dst (N := 49) rfl ?_); refine gl (some 49) Tryd.func25 #[.agg #[.int .u32 t159, .int .i64 t160], .agg #[.int .u32 t161, .int .i64 t162]] ?_; (with_reducible refine (prefix_Less.calls t159 t160 t161 t162 true _ A187.out).mono ?_); rintro e w226 ⟨rfl, hb⟩; refine ⟨_, rfl, ?_⟩; replace BK165 := bkb BK165 hb; replace BK166 := bkb BK166 hb; replace BK167 := bkb BK167 hb; replace HB := bst hb; (try clear hb); (try clear hb2); (try clear hk); (try clear hi); obtain ⟨hcz227_0, hcz227_1, hfz227_0, hfz227_1⟩ := bc2 BK166; obtain ⟨hcz228_0, hcz228_1, hfz228_0, hfz228_1⟩ := bc2 BK167) | (go_at_call 25; (with_reducible refine (prefix_Less.calls t161 t162 t163 t164 false _ A189.out).mono ?_); rintro e w229 ⟨rfl, hb⟩; replace BK165 := bkb BK165 hb; replace BK166 := bkb BK166 hb; replace BK167 := bkb BK167 hb; replace HB := bst hb; (try clear hb); (try clear hb2); (try clear hk); (try clear hi); obtain ⟨hcz230_0, hcz230_1, hfz230_0, hfz230_1⟩ := bc2 BK165) | (go_at_call 25; (with_reducible refine (prefix_Less.calls t159 t160 t159 t160 t181 _ A220.out).mono ?_); rintro e w231 ⟨rfl, hb⟩; replace BK165 := bkb BK165 hb; replace BK166 := bkb BK166 hb; replace BK167 := bkb BK167 hb; replace HB := bst hb; (try clear hb); (try clear hb2); (try clear hk); (try clear hi)))
        go_meet
        case rel => exact ⟨_, (t181), (by first | rfl | (simp; done) | (simp [*]; done)), H', ⟨by have := HJ8.out; first | omega | exact Nat.le_refl _⟩, ⟨bkq BK165⟩, ⟨bkq BK166⟩, ⟨bkq BK167⟩, ⟨by repeat (first | (with_reducible first | exact HB.out | apply below_alloc | apply pw_below_drewN | apply below_drew1 | refine below_set ?_ GE165.out | refine below_set ?_ GE166.out | refine below_set ?_ GE167.out) | exact HB.out)⟩⟩
      ·replace c188 := Bool.eq_false_iff.mpr c188
       subst c188
       have H1 : ((prefix_Less.f t159 t160 t159 t160).bind fun t182 => (maquettelaw05_PrefixOrder.j1 kj8 t182 t159 t160 t161 t162)) = some r := by rw [if_neg (show ¬ (false = true) by decide)] at H; exact H
       clear H
       have H := H1
       clear H1
       replace H := Option.bind_eq_some_iff.mp H
       obtain ⟨t182, A2320, H⟩ := H
       replace H : (maquettelaw05_PrefixOrder.j1 kj8 t182 t159 t160 t161 t162) = some r := H
       have A232 := Aside0.mk A2320
       clear A2320
       have H' := Aside0.mk H
       clear H
       have hnb233 := NB165_166.out
       have hnc233 := NB166_165.out
       have hnb234 := NB165_167.out
       have hnc234 := NB167_165.out
       obtain ⟨hcz235_0, hcz235_1, hfz235_0, hfz235_1⟩ := bc2 BK165
       have hnb236 := NB166_167.out
       have hnc236 := NB167_166.out
       obtain ⟨hcz237_0, hcz237_1, hfz237_0, hfz237_1⟩ := bc2 BK166
       go_wp2_with (first | ((with_reducible refine gate_dst (N := 49) rfl ?_); refine gl (some 49) Tryd.func25 #[.agg #[.int .u32 t159, .int .i64 t160], .agg #[.int .u32 t161, .int .i64 t162]] ?_; (with_reducible refine (prefix_Less.calls t159 t160 t161 t162 false _ A187.out).mono ?_); rintro e w238 ⟨rfl, hb⟩; refine ⟨_, rfl, ?_⟩; replace BK165 := bkb BK165 hb; replace BK166 := bkb BK166 hb; replace BK167 := bkb BK167 hb; replace HB := bst hb; (try clear hb); (try clear hb2); (try clear hk); (try clear hi); obtain ⟨hcz239_0, hcz239_1, hfz239_0, hfz239_1⟩ := bc2 BK165) | (go_at_call 25; (with_reducible refine (prefix_Less.calls t159 t160 t159 t160 t182 _ A232.out).mono ?_); rintro e w240 ⟨rfl, hb⟩; replace BK165 := bkb BK165 hb; replace BK166 := bkb BK166 hb; replace BK167 := bkb BK167 hb; replace HB := bst hb; (try clear hb); (try clear hb2); (try clear hk); (try clear hi)))
       go_meet
       case rel => exact ⟨_, (t182), (by first | rfl | (simp; done) | (simp [*]; done)), H', ⟨by have := HJ8.out; first | omega | exact Nat.le_refl _⟩, ⟨bkq BK165⟩, ⟨bkq BK166⟩, ⟨bkq BK167⟩, ⟨by repeat (first | (with_reducible first | exact HB.out | apply below_alloc | apply pw_below_drewN | apply below_drew1 | refine below_set ?_ GE165.out | refine below_set ?_ GE166.out | refine below_set ?_ GE167.out) | exact HB.out)⟩⟩
     case rest =>
      clear HC186
      try clear c1
      try clear c2
      try clear p2 p2
      try clear c3
      try clear c5
      try clear c7
      try clear c8
      try clear c9
      try clear c10
      try clear c11
      try clear c12
      try clear c13
      try clear c14
      try clear c15
      try clear c16
      try clear c17
      try clear c18
      try clear c19
      try clear c20
      try clear c21
      try clear c22
      try clear c23
      try clear c24
      try clear c25
      try clear c26
      try clear c28
      try clear c30
      try clear c32
      try clear c33
      try clear c34
      try clear c36
      try clear c53
      try clear c54
      try clear c56
      try clear c71
      try clear c72
      try clear c74
      try clear c86
      try clear c87
      try clear c89
      try clear c99
      try clear c101
      try clear c102
      try clear c103
      try clear c105
      try clear c119
      try clear c120
      try clear c122
      try clear c134
      try clear c135
      try clear c137
      try clear c147
      try clear c149
      try clear c150
      try clear c151
      try clear c153
      try clear c164
      try clear c165
      try clear c167
      try clear c176
      try clear c177
      try clear c179
      try clear c185
      try clear c188
      try clear c190
      try clear c192
      try clear c194
      try clear c195
      try clear c197
      try clear c208
      try clear c209
      try clear c211
      try clear c221
      try clear c222
      try clear c224
      try clear c233
      try clear c234
      try clear c236
      try clear hcz104_0 hcz104_1 hfz104_0 hfz104_1
      try clear hcz106_0 hcz106_1 hfz106_0 hfz106_1
      try clear hcz108_0 hcz108_1 hfz108_0 hfz108_1
      try clear hcz109_0 hcz109_1 hfz109_0 hfz109_1
      try clear hcz111_0 hcz111_1 hfz111_0 hfz111_1
      try clear hcz112_0 hcz112_1 hfz112_0 hfz112_1
      try clear hcz114_0 hcz114_1 hfz114_0 hfz114_1
      try clear hcz115_0 hcz115_1 hfz115_0 hfz115_1
      try clear hcz117_0 hcz117_1 hfz117_0 hfz117_1
      try clear hcz118_0 hcz118_1 hfz118_0 hfz118_1
      try clear hcz121_0 hcz121_1 hfz121_0 hfz121_1
      try clear hcz123_0 hcz123_1 hfz123_0 hfz123_1
      try clear hcz125_0 hcz125_1 hfz125_0 hfz125_1
      try clear hcz126_0 hcz126_1 hfz126_0 hfz126_1
      try clear hcz128_0 hcz128_1 hfz128_0 hfz128_1
      try clear hcz129_0 hcz129_1 hfz129_0 hfz129_1
      try clear hcz131_0 hcz131_1 hfz131_0 hfz131_1
      try clear hcz132_0 hcz132_1 hfz132_0 hfz132_1
      try clear hcz136_0 hcz136_1 hfz136_0 hfz136_1
      try clear hcz138_0 hcz138_1 hfz138_0 hfz138_1
      try clear hcz140_0 hcz140_1 hfz140_0 hfz140_1
      try clear hcz141_0 hcz141_1 hfz141_0 hfz141_1
      try clear hcz143_0 hcz143_1 hfz143_0 hfz143_1
      try clear hcz144_0 hcz144_1 hfz144_0 hfz144_1
      try clear hcz152_0 hcz152_1 hfz152_0 hfz152_1
      try clear hcz154_0 hcz154_1 hfz154_0 hfz154_1
      try clear hcz156_0 hcz156_1 hfz156_0 hfz156_1
      try clear hcz157_0 hcz157_1 hfz157_0 hfz157_1
      try clear hcz159_0 hcz159_1 hfz159_0 hfz159_1
      try clear hcz160_0 hcz160_1 hfz160_0 hfz160_1
      try clear hcz162_0 hcz162_1 hfz162_0 hfz162_1
      try clear hcz163_0 hcz163_1 hfz163_0 hfz163_1
      try clear hcz166_0 hcz166_1 hfz166_0 hfz166_1
      try clear hcz168_0 hcz168_1 hfz168_0 hfz168_1
      try clear hcz170_0 hcz170_1 hfz170_0 hfz170_1
      try clear hcz171_0 hcz171_1 hfz171_0 hfz171_1
      try clear hcz173_0 hcz173_1 hfz173_0 hfz173_1
      try clear hcz174_0 hcz174_1 hfz174_0 hfz174_1
      try clear hcz178_0 hcz178_1 hfz178_0 hfz178_1
      try clear hcz180_0 hcz180_1 hfz180_0 hfz180_1
      try clear hcz182_0 hcz182_1 hfz182_0 hfz182_1
      try clear hcz183_0 hcz183_1 hfz183_0 hfz183_1
      try clear hcz196_0 hcz196_1 hfz196_0 hfz196_1
      try clear hcz198_0 hcz198_1 hfz198_0 hfz198_1
      try clear hcz19_0 hcz19_1 hfz19_0 hfz19_1
      try clear hcz200_0 hcz200_1 hfz200_0 hfz200_1
      try clear hcz201_0 hcz201_1 hfz201_0 hfz201_1
      try clear hcz203_0 hcz203_1 hfz203_0 hfz203_1
      try clear hcz204_0 hcz204_1 hfz204_0 hfz204_1
      try clear hcz206_0 hcz206_1 hfz206_0 hfz206_1
      try clear hcz210_0 hcz210_1 hfz210_0 hfz210_1
      try clear hcz212_0 hcz212_1 hfz212_0 hfz212_1
      try clear hcz214_0 hcz214_1 hfz214_0 hfz214_1
      try clear hcz215_0 hcz215_1 hfz215_0 hfz215_1
      try clear hcz217_0 hcz217_1 hfz217_0 hfz217_1
      try clear hcz218_0 hcz218_1 hfz218_0 hfz218_1
      try clear hcz21_0 hcz21_1 hfz21_0 hfz21_1
      try clear hcz223_0 hcz223_1 hfz223_0 hfz223_1
      try clear hcz225_0 hcz225_1 hfz225_0 hfz225_1
      try clear hcz227_0 hcz227_1 hfz227_0 hfz227_1
      try clear hcz228_0 hcz228_1 hfz228_0 hfz228_1
      try clear hcz22_0 hcz22_1 hfz22_0 hfz22_1
      try clear hcz230_0 hcz230_1 hfz230_0 hfz230_1
      try clear hcz235_0 hcz235_1 hfz235_0 hfz235_1
      try clear hcz237_0 hcz237_1 hfz237_0 hfz237_1
      try clear hcz239_0 hcz239_1 hfz239_0 hfz239_1
      try clear hcz35_0 hcz35_1 hfz35_0 hfz35_1
      try clear hcz37_0 hcz37_1 hfz37_0 hfz37_1
      try clear hcz39_0 hcz39_1 hfz39_0 hfz39_1
      try clear hcz40_0 hcz40_1 hfz40_0 hfz40_1
      try clear hcz42_0 hcz42_1 hfz42_0 hfz42_1
      try clear hcz43_0 hcz43_1 hfz43_0 hfz43_1
      try clear hcz45_0 hcz45_1 hfz45_0 hfz45_1
      try clear hcz46_0 hcz46_1 hfz46_0 hfz46_1
      try clear hcz48_0 hcz48_1 hfz48_0 hfz48_1
      try clear hcz49_0 hcz49_1 hfz49_0 hfz49_1
      try clear hcz51_0 hcz51_1 hfz51_0 hfz51_1
      try clear hcz52_0 hcz52_1 hfz52_0 hfz52_1
      try clear hcz55_0 hcz55_1 hfz55_0 hfz55_1
      try clear hcz57_0 hcz57_1 hfz57_0 hfz57_1
      try clear hcz59_0 hcz59_1 hfz59_0 hfz59_1
      try clear hcz60_0 hcz60_1 hfz60_0 hfz60_1
      try clear hcz62_0 hcz62_1 hfz62_0 hfz62_1
      try clear hcz63_0 hcz63_1 hfz63_0 hfz63_1
      try clear hcz65_0 hcz65_1 hfz65_0 hfz65_1
      try clear hcz66_0 hcz66_1 hfz66_0 hfz66_1
      try clear hcz68_0 hcz68_1 hfz68_0 hfz68_1
      try clear hcz69_0 hcz69_1 hfz69_0 hfz69_1
      try clear hcz73_0 hcz73_1 hfz73_0 hfz73_1
      try clear hcz75_0 hcz75_1 hfz75_0 hfz75_1
      try clear hcz77_0 hcz77_1 hfz77_0 hfz77_1
      try clear hcz78_0 hcz78_1 hfz78_0 hfz78_1
      try clear hcz80_0 hcz80_1 hfz80_0 hfz80_1
      try clear hcz81_0 hcz81_1 hfz81_0 hfz81_1
      try clear hcz83_0 hcz83_1 hfz83_0 hfz83_1
      try clear hcz84_0 hcz84_1 hfz84_0 hfz84_1
      try clear hcz88_0 hcz88_1 hfz88_0 hfz88_1
      try clear hcz90_0 hcz90_1 hfz90_0 hfz90_1
      try clear hcz92_0 hcz92_1 hfz92_0 hfz92_1
      try clear hcz93_0 hcz93_1 hfz93_0 hfz93_1
      try clear hcz95_0 hcz95_1 hfz95_0 hfz95_1
      try clear hcz96_0 hcz96_1 hfz96_0 hfz96_1
      obtain ⟨kq, x65_185, rfl, HA, HJ185, BK165, BK166, BK167, HB⟩ := hcut
      cases kq with
      | zero => exact absurd HA.out (by simp [maquettelaw05_PrefixOrder.j1])
      | succ kj185 =>
       have H := HA.out
       clear HA
       simp only [maquettelaw05_PrefixOrder.j1] at H
       by_cases c241 : x65_185 = true
       ·subst c241
        have H1 : (some false) = some r := by rw [if_pos rfl] at H; exact H
        clear H
        have H := H1
        clear H1
        obtain rfl := Option.some.inj H
        go_wp2
        go_ret
        exact ⟨by first | rfl | (simp [errW_none, errW_some] <;> rfl) | (simp [*, errW_none, errW_some] <;> rfl), by repeat (first | (with_reducible first | exact HB.out | apply below_alloc | apply pw_below_drewN | apply below_drew1 | refine below_set ?_ GE165.out | refine below_set ?_ GE166.out | refine below_set ?_ GE167.out) | exact HB.out)⟩
       ·replace c241 := Bool.eq_false_iff.mpr c241
        subst c241
        have H1 : ((prefix_Less.f t159 t160 t161 t162).bind fun t183 => (if t183 = true then (if (true == (!(t159 == t161) || (!(t160 == t162)))) = true then ((prefix_Covers.f t159 t160 t161 t162).bind fun t184 => (if t184 = true then ((prefix_Less.f t161 t162 t159 t160).bind fun t185 => (some (!t185))) else (some true))) else (some false)) else ((prefix_Less.f t161 t162 t159 t160).bind fun t186 => (if (t186 == (!(t159 == t161) || (!(t160 == t162)))) = true then ((prefix_Covers.f t159 t160 t161 t162).bind fun t187 => (if t187 = true then ((prefix_Less.f t161 t162 t159 t160).bind fun t188 => (some (!t188))) else (some true))) else (some false))))) = some r := by rw [if_neg (show ¬ (false = true) by decide)] at H; exact H
        clear H
        have H := H1
        clear H1
        replace H := Option.bind_eq_some_iff.mp H
        obtain ⟨t183, A2420, H⟩ := H
        replace H : (if t183 = true then (if (true == (!(t159 == t161) || (!(t160 == t162)))) = true then ((prefix_Covers.f t159 t160 t161 t162).bind fun t184 => (if t184 = true then ((prefix_Less.f t161 t162 t159 t160).bind fun t185 => (some (!t185))) else (some true))) else (some false)) else ((prefix_Less.f t161 t162 t159 t160).bind fun t186 => (if (t186 == (!(t159 == t161) || (!(t160 == t162)))) = true then ((prefix_Covers.f t159 t160 t161 t162).bind fun t187 => (if t187 = true then ((prefix_Less.f t161 t162 t159 t160).bind fun t188 => (some (!t188))) else (some true))) else (some false)))) = some r := H
        have A242 := Aside0.mk A2420
        clear A2420
        by_cases c243 : t183 = true
        ·subst c243
         have H1 : (if (true == (!(t159 == t161) || (!(t160 == t162)))) = true then ((prefix_Covers.f t159 t160 t161 t162).bind fun t184 => (if t184 = true then ((prefix_Less.f t161 t162 t159 t160).bind fun t185 => (some (!t185))) else (some true))) else (some false)) = some r := by rw [if_pos rfl] at H; exact H
         clear H
         have H := H1
         clear H1
         by_cases c244 : (true == (!(t159 == t161) || (!(t160 == t162)))) = true
         ·rw [if_pos c244] at H
          have c244b0 : (true == (!(t159 == t161) || (!(t160 == t162)))) = true := c244
          (try (have c244b1 : decide (true = (!(t159 == t161) || (!(t160 == t162)))) = true := by simpa using c244))
          (try (have c244b2 : (true == (!(t159 == t161) || (!(t160 == t162)))) = true := by simpa using c244))
          clear c244
          replace H := Option.bind_eq_some_iff.mp H
          obtain ⟨t184, A2450, H⟩ := H
          replace H : (if t184 = true then ((prefix_Less.f t161 t162 t159 t160).bind fun t185 => (some (!t185))) else (some true)) = some r := H
          have A245 := Aside0.mk A2450
          clear A2450
          by_cases c246 : t184 = true
          ·subst c246
           have H1 : ((prefix_Less.f t161 t162 t159 t160).bind fun t185 => (some (!t185))) = some r := by rw [if_pos rfl] at H; exact H
           clear H
           have H := H1
           clear H1
           replace H := Option.bind_eq_some_iff.mp H
           obtain ⟨t185, A2470, H⟩ := H
           replace H : (some (!t185)) = some r := H
           have A247 := Aside0.mk A2470
           clear A2470
           obtain rfl := Option.some.inj H
           try go_wp2
           replace BK165 := Aside0.mk (blk_drew BK165.out)
           replace BK166 := Aside0.mk (blk_drew BK166.out)
           replace BK167 := Aside0.mk (blk_drew BK167.out)
           replace HB := Aside0.mk (below_drew1 HB.out)
           refine start_ (n := 25) (S := fun w' => w'.cell? ⟨gb165, 0, none⟩ = some (.int .u32 t159) ∧ w'.cell? ⟨gb165, 1, none⟩ = some (.int .i64 t160) ∧ w'.cell? ⟨gb166, 0, none⟩ = some (.int .u32 t161) ∧ w'.cell? ⟨gb166, 1, none⟩ = some (.int .i64 t162)) (ds := []) #[false, false, false, false, false, false, false, false, false, false, false, false, false, false, false, false, false, false, false, false, false, false, false, false, false] (by kernel_rfl) rfl rfl ⟨(blk_cell BK165.out 0).trans rfl, (blk_cell BK165.out 1).trans rfl, (blk_cell BK166.out 0).trans rfl, (blk_cell BK166.out 1).trans rfl⟩ (fun hHeld => ?_); refine with_tabW maquettelaw05_PrefixOrder.tab8 maquettelaw05_PrefixOrder.bits8 (fun HT_ HW_ => ?_)
           generalize wc.drew = w248 at BK165 BK166 BK167 HB hHeld ⊢
           refine tk HT_ HW_ 0 (some 66) (mk 25 1) hHeld ?_
           refine tk HT_ HW_ 1 (some 67) (mk 25 3) hHeld ?_
           refine tk HT_ HW_ 8 (some 74) (mk 25 259) hHeld ?_
           refine tk HT_ HW_ 9 (some 75) (mk 25 771) hHeld ?_
           refine pu HT_ 10 (some 76) (mk 25 1795) ?_
           refine on HT_ 2 (some 68) (mk 25 1799) fun K hK => ?_
           refine go1 Tryd.func25 #[.agg #[.int .u32 t159, .int .i64 t160], .agg #[.int .u32 t161, .int .i64 t162]] ?_
           with_reducible refine (prefix_Less.calls t159 t160 t161 t162 true _ A242.out).mono ?_
           rintro e w249 ⟨rfl, hb⟩
           refine ⟨_, rfl, ?_⟩
           replace BK165 := bkb BK165 hb
           replace BK166 := bkb BK166 hb
           replace BK167 := bkb BK167 hb
           replace HB := bst hb
           (try clear hb)
           (try clear hb2)
           (try clear hk)
           (try clear hi)
           refine hK.out _ _ ⟨(blk_cell BK165.out 0).trans rfl, (blk_cell BK165.out 1).trans rfl, (blk_cell BK166.out 0).trans rfl, (blk_cell BK166.out 1).trans rfl⟩ (fun hHeld => ?_)
           clear hK K
           refine nm (some 68) ?_
           refine pu HT_ 3 (some 69) (mk 25 1807) ?_
           refine pun HT_ 4 (some 70) (mk 25 1823) ?_
           refine pun HT_ 5 (some 71) (mk 25 1855) ?_
           refine pun HT_ 6 (some 72) (mk 25 1919) ?_
           refine pu HT_ 7 (some 73) (mk 25 2047) ?_
           refine pu HT_ 11 (some 77) (mk 25 4095) ?_
           refine pu HT_ 12 (some 78) (mk 25 8191) ?_
           refine tk HT_ HW_ 13 (some 79) (mk 25 16383) hHeld ?_
           refine tk HT_ HW_ 14 (some 80) (mk 25 32767) hHeld ?_
           refine on HT_ 15 (some 81) (mk 25 65535) fun K hK => ?_
           refine go1 Tryd.func24 #[.agg #[.int .u32 t159, .int .i64 t160], .agg #[.int .u32 t161, .int .i64 t162]] ?_
           with_reducible refine (prefix_Covers.calls t159 t160 t161 t162 true _ A245.out).mono ?_
           rintro e w250 ⟨rfl, hb⟩
           refine ⟨_, rfl, ?_⟩
           replace BK165 := bkb BK165 hb
           replace BK166 := bkb BK166 hb
           replace BK167 := bkb BK167 hb
           replace HB := bst hb
           (try clear hb)
           (try clear hb2)
           (try clear hk)
           (try clear hi)
           refine hK.out _ _ ⟨(blk_cell BK165.out 0).trans rfl, (blk_cell BK165.out 1).trans rfl, (blk_cell BK166.out 0).trans rfl, (blk_cell BK166.out 1).trans rfl⟩ (fun hHeld => ?_)
           clear hK K
           refine nm (some 81) ?_
           refine pu HT_ 16 (some 82) (mk 25 131071) ?_
           refine pu HT_ 17 (some 83) (mk 25 262143) ?_
           refine tk HT_ HW_ 18 (some 84) (mk 25 524287) hHeld ?_
           refine tk HT_ HW_ 19 (some 85) (mk 25 1048575) hHeld ?_
           refine on HT_ 20 (some 86) (mk 25 2097151) fun K hK => ?_
           refine go1 Tryd.func25 #[.agg #[.int .u32 t161, .int .i64 t162], .agg #[.int .u32 t159, .int .i64 t160]] ?_
           with_reducible refine (prefix_Less.calls t161 t162 t159 t160 t185 _ A247.out).mono ?_
           rintro e w251 ⟨rfl, hb⟩
           refine ⟨_, rfl, ?_⟩
           replace BK165 := bkb BK165 hb
           replace BK166 := bkb BK166 hb
           replace BK167 := bkb BK167 hb
           replace HB := bst hb
           (try clear hb)
           (try clear hb2)
           (try clear hk)
           (try clear hi)
           refine hK.out _ _ ⟨(blk_cell BK165.out 0).trans rfl, (blk_cell BK165.out 1).trans rfl, (blk_cell BK166.out 0).trans rfl, (blk_cell BK166.out 1).trans rfl⟩ (fun hHeld => ?_)
           clear hK K
           refine nm (some 86) ?_
           refine pu HT_ 21 (some 87) (mk 25 4194303) ?_
           refine pu HT_ 22 (some 88) (mk 25 8388607) ?_
           refine pu HT_ 23 (some 89) (mk 25 16777215) ?_
           refine pu HT_ 24 (some 6) (mk 25 33554431) ?_
           refine done_ (done_of HT_.out (by kernel_rfl)) ?_
           try go_wp2
           go_ret
           exact ⟨by first | rfl | (simp [errW_none, errW_some] <;> rfl) | (simp [*, errW_none, errW_some] <;> rfl), by repeat (first | (with_reducible first | exact HB.out | apply below_alloc | apply pw_below_drewN | apply below_drew1 | refine below_set ?_ GE165.out | refine below_set ?_ GE166.out | refine below_set ?_ GE167.out) | exact HB.out)⟩
          ·replace c246 := Bool.eq_false_iff.mpr c246
           subst c246
           have H1 : (some true) = some r := by rw [if_neg (show ¬ (false = true) by decide)] at H; exact H
           clear H
           have H := H1
           clear H1
           obtain rfl := Option.some.inj H
           try go_wp2
           replace BK165 := Aside0.mk (blk_drew BK165.out)
           replace BK166 := Aside0.mk (blk_drew BK166.out)
           replace BK167 := Aside0.mk (blk_drew BK167.out)
           replace HB := Aside0.mk (below_drew1 HB.out)
           refine start_ (n := 25) (S := fun w' => w'.cell? ⟨gb165, 0, none⟩ = some (.int .u32 t159) ∧ w'.cell? ⟨gb165, 1, none⟩ = some (.int .i64 t160) ∧ w'.cell? ⟨gb166, 0, none⟩ = some (.int .u32 t161) ∧ w'.cell? ⟨gb166, 1, none⟩ = some (.int .i64 t162)) (ds := []) #[false, false, false, false, false, false, false, false, false, false, false, false, false, false, false, false, false, false, false, false, false, false, false, false, false] (by kernel_rfl) rfl rfl ⟨(blk_cell BK165.out 0).trans rfl, (blk_cell BK165.out 1).trans rfl, (blk_cell BK166.out 0).trans rfl, (blk_cell BK166.out 1).trans rfl⟩ (fun hHeld => ?_); refine with_tabW maquettelaw05_PrefixOrder.tab8 maquettelaw05_PrefixOrder.bits8 (fun HT_ HW_ => ?_)
           generalize wc.drew = w252 at BK165 BK166 BK167 HB hHeld ⊢
           refine tk HT_ HW_ 0 (some 66) (mk 25 1) hHeld ?_
           refine tk HT_ HW_ 1 (some 67) (mk 25 3) hHeld ?_
           refine tk HT_ HW_ 8 (some 74) (mk 25 259) hHeld ?_
           refine tk HT_ HW_ 9 (some 75) (mk 25 771) hHeld ?_
           refine pu HT_ 10 (some 76) (mk 25 1795) ?_
           refine on HT_ 2 (some 68) (mk 25 1799) fun K hK => ?_
           refine go1 Tryd.func25 #[.agg #[.int .u32 t159, .int .i64 t160], .agg #[.int .u32 t161, .int .i64 t162]] ?_
           with_reducible refine (prefix_Less.calls t159 t160 t161 t162 true _ A242.out).mono ?_
           rintro e w253 ⟨rfl, hb⟩
           refine ⟨_, rfl, ?_⟩
           replace BK165 := bkb BK165 hb
           replace BK166 := bkb BK166 hb
           replace BK167 := bkb BK167 hb
           replace HB := bst hb
           (try clear hb)
           (try clear hb2)
           (try clear hk)
           (try clear hi)
           refine hK.out _ _ ⟨(blk_cell BK165.out 0).trans rfl, (blk_cell BK165.out 1).trans rfl, (blk_cell BK166.out 0).trans rfl, (blk_cell BK166.out 1).trans rfl⟩ (fun hHeld => ?_)
           clear hK K
           refine nm (some 68) ?_
           refine pu HT_ 3 (some 69) (mk 25 1807) ?_
           refine pun HT_ 4 (some 70) (mk 25 1823) ?_
           refine pun HT_ 5 (some 71) (mk 25 1855) ?_
           refine pun HT_ 6 (some 72) (mk 25 1919) ?_
           refine pu HT_ 7 (some 73) (mk 25 2047) ?_
           refine pu HT_ 11 (some 77) (mk 25 4095) ?_
           refine pu HT_ 12 (some 78) (mk 25 8191) ?_
           refine tk HT_ HW_ 13 (some 79) (mk 25 16383) hHeld ?_
           refine tk HT_ HW_ 14 (some 80) (mk 25 32767) hHeld ?_
           refine on HT_ 15 (some 81) (mk 25 65535) fun K hK => ?_
           refine go1 Tryd.func24 #[.agg #[.int .u32 t159, .int .i64 t160], .agg #[.int .u32 t161, .int .i64 t162]] ?_
           with_reducible refine (prefix_Covers.calls t159 t160 t161 t162 false _ A245.out).mono ?_
           rintro e w254 ⟨rfl, hb⟩
           refine ⟨_, rfl, ?_⟩
           replace BK165 := bkb BK165 hb
           replace BK166 := bkb BK166 hb
           replace BK167 := bkb BK167 hb
           replace HB := bst hb
           (try clear hb)
           (try clear hb2)
           (try clear hk)
           (try clear hi)
           refine hK.out _ _ ⟨(blk_cell BK165.out 0).trans rfl, (blk_cell BK165.out 1).trans rfl, (blk_cell BK166.out 0).trans rfl, (blk_cell BK166.out 1).trans rfl⟩ (fun hHeld => ?_)
           clear hK K
           refine nm (some 81) ?_
           refine pu HT_ 16 (some 82) (mk 25 131071) ?_
           refine pu HT_ 17 (some 83) (mk 25 262143) ?_
           refine pun HT_ 18 (some 84) (mk 25 524287) ?_
           refine pun HT_ 19 (some 85) (mk 25 1048575) ?_
           refine pun HT_ 20 (some 86) (mk 25 2097151) ?_
           refine pun HT_ 21 (some 87) (mk 25 4194303) ?_
           refine pu HT_ 22 (some 88) (mk 25 8388607) ?_
           refine pu HT_ 23 (some 89) (mk 25 16777215) ?_
           refine pu HT_ 24 (some 6) (mk 25 33554431) ?_
           refine done_ (done_of HT_.out (by kernel_rfl)) ?_
           try go_wp2
           go_ret
           exact ⟨by first | rfl | (simp [errW_none, errW_some] <;> rfl) | (simp [*, errW_none, errW_some] <;> rfl), by repeat (first | (with_reducible first | exact HB.out | apply below_alloc | apply pw_below_drewN | apply below_drew1 | refine below_set ?_ GE165.out | refine below_set ?_ GE166.out | refine below_set ?_ GE167.out) | exact HB.out)⟩
         ·rw [if_neg c244] at H
          have c244b0 : (true == (!(t159 == t161) || (!(t160 == t162)))) = false := by simpa using c244
          (try (have c244b1 : decide (true = (!(t159 == t161) || (!(t160 == t162)))) = false := by simpa using c244))
          (try (have c244b2 : (true == (!(t159 == t161) || (!(t160 == t162)))) = false := by simpa using c244))
          (try (have c244b3 : ¬ (true = (!(t159 == t161) || (!(t160 == t162)))) := by simpa using c244))
          clear c244
          obtain rfl := Option.some.inj H
          try go_wp2
          replace BK165 := Aside0.mk (blk_drew BK165.out)
          replace BK166 := Aside0.mk (blk_drew BK166.out)
          replace BK167 := Aside0.mk (blk_drew BK167.out)
          replace HB := Aside0.mk (below_drew1 HB.out)
          refine start_ (n := 25) (S := fun w' => w'.cell? ⟨gb165, 0, none⟩ = some (.int .u32 t159) ∧ w'.cell? ⟨gb165, 1, none⟩ = some (.int .i64 t160) ∧ w'.cell? ⟨gb166, 0, none⟩ = some (.int .u32 t161) ∧ w'.cell? ⟨gb166, 1, none⟩ = some (.int .i64 t162)) (ds := []) #[false, false, false, false, false, false, false, false, false, false, false, false, false, false, false, false, false, false, false, false, false, false, false, false, false] (by kernel_rfl) rfl rfl ⟨(blk_cell BK165.out 0).trans rfl, (blk_cell BK165.out 1).trans rfl, (blk_cell BK166.out 0).trans rfl, (blk_cell BK166.out 1).trans rfl⟩ (fun hHeld => ?_); refine with_tabW maquettelaw05_PrefixOrder.tab8 maquettelaw05_PrefixOrder.bits8 (fun HT_ HW_ => ?_)
          generalize wc.drew = w255 at BK165 BK166 BK167 HB hHeld ⊢
          refine tk HT_ HW_ 0 (some 66) (mk 25 1) hHeld ?_
          refine tk HT_ HW_ 1 (some 67) (mk 25 3) hHeld ?_
          refine tk HT_ HW_ 8 (some 74) (mk 25 259) hHeld ?_
          refine tk HT_ HW_ 9 (some 75) (mk 25 771) hHeld ?_
          refine pu HT_ 10 (some 76) (mk 25 1795) ?_
          refine on HT_ 2 (some 68) (mk 25 1799) fun K hK => ?_
          refine go1 Tryd.func25 #[.agg #[.int .u32 t159, .int .i64 t160], .agg #[.int .u32 t161, .int .i64 t162]] ?_
          with_reducible refine (prefix_Less.calls t159 t160 t161 t162 true _ A242.out).mono ?_
          rintro e w256 ⟨rfl, hb⟩
          refine ⟨_, rfl, ?_⟩
          replace BK165 := bkb BK165 hb
          replace BK166 := bkb BK166 hb
          replace BK167 := bkb BK167 hb
          replace HB := bst hb
          (try clear hb)
          (try clear hb2)
          (try clear hk)
          (try clear hi)
          refine hK.out _ _ ⟨(blk_cell BK165.out 0).trans rfl, (blk_cell BK165.out 1).trans rfl, (blk_cell BK166.out 0).trans rfl, (blk_cell BK166.out 1).trans rfl⟩ (fun hHeld => ?_)
          clear hK K
          refine nm (some 68) ?_
          refine pu HT_ 3 (some 69) (mk 25 1807) ?_
          refine pun HT_ 4 (some 70) (mk 25 1823) ?_
          refine pun HT_ 5 (some 71) (mk 25 1855) ?_
          refine pun HT_ 6 (some 72) (mk 25 1919) ?_
          refine pu HT_ 7 (some 73) (mk 25 2047) ?_
          refine pu HT_ 11 (some 77) (mk 25 4095) ?_
          refine pu HT_ 12 (some 78) (mk 25 8191) ?_
          refine pun HT_ 13 (some 79) (mk 25 16383) ?_
          refine pun HT_ 14 (some 80) (mk 25 32767) ?_
          refine pun HT_ 15 (some 81) (mk 25 65535) ?_
          refine pun HT_ 16 (some 82) (mk 25 131071) ?_
          refine pun HT_ 17 (some 83) (mk 25 262143) ?_
          refine pun HT_ 18 (some 84) (mk 25 524287) ?_
          refine pun HT_ 19 (some 85) (mk 25 1048575) ?_
          refine pun HT_ 20 (some 86) (mk 25 2097151) ?_
          refine pun HT_ 21 (some 87) (mk 25 4194303) ?_
          refine pun HT_ 22 (some 88) (mk 25 8388607) ?_
          refine pu HT_ 23 (some 89) (mk 25 16777215) ?_
          refine pu HT_ 24 (some 6) (mk 25 33554431) ?_
          refine done_ (done_of HT_.out (by kernel_rfl)) ?_
          try go_wp2
          go_ret
          exact ⟨by first | rfl | (simp [errW_none, errW_some] <;> rfl) | (simp [*, errW_none, errW_some] <;> rfl), by repeat (first | (with_reducible first | exact HB.out | apply below_alloc | apply pw_below_drewN | apply below_drew1 | refine below_set ?_ GE165.out | refine below_set ?_ GE166.out | refine below_set ?_ GE167.out) | exact HB.out)⟩
        ·replace c243 := Bool.eq_false_iff.mpr c243
         subst c243
         have H1 : ((prefix_Less.f t161 t162 t159 t160).bind fun t186 => (if (t186 == (!(t159 == t161) || (!(t160 == t162)))) = true then ((prefix_Covers.f t159 t160 t161 t162).bind fun t187 => (if t187 = true then ((prefix_Less.f t161 t162 t159 t160).bind fun t188 => (some (!t188))) else (some true))) else (some false))) = some r := by rw [if_neg (show ¬ (false = true) by decide)] at H; exact H
         clear H
         have H := H1
         clear H1
         replace H := Option.bind_eq_some_iff.mp H
         obtain ⟨t186, A2570, H⟩ := H
         replace H : (if (t186 == (!(t159 == t161) || (!(t160 == t162)))) = true then ((prefix_Covers.f t159 t160 t161 t162).bind fun t187 => (if t187 = true then ((prefix_Less.f t161 t162 t159 t160).bind fun t188 => (some (!t188))) else (some true))) else (some false)) = some r := H
         have A257 := Aside0.mk A2570
         clear A2570
         by_cases c258 : (t186 == (!(t159 == t161) || (!(t160 == t162)))) = true
         ·rw [if_pos c258] at H
          have c258b0 : (t186 == (!(t159 == t161) || (!(t160 == t162)))) = true := c258
          (try (have c258b1 : decide (t186 = (!(t159 == t161) || (!(t160 == t162)))) = true := by simpa using c258))
          (try (have c258b2 : (t186 == (!(t159 == t161) || (!(t160 == t162)))) = true := by simpa using c258))
          clear c258
          replace H := Option.bind_eq_some_iff.mp H
          obtain ⟨t187, A2590, H⟩ := H
          replace H : (if t187 = true then ((prefix_Less.f t161 t162 t159 t160).bind fun t188 => (some (!t188))) else (some true)) = some r := H
          have A259 := Aside0.mk A2590
          clear A2590
          by_cases c260 : t187 = true
          ·subst c260
           have H1 : ((prefix_Less.f t161 t162 t159 t160).bind fun t188 => (some (!t188))) = some r := by rw [if_pos rfl] at H; exact H
           clear H
           have H := H1
           clear H1
           replace H := Option.bind_eq_some_iff.mp H
           obtain ⟨t188, A2610, H⟩ := H
           replace H : (some (!t188)) = some r := H
           have A261 := Aside0.mk A2610
           clear A2610
           obtain rfl := Option.some.inj H
           try go_wp2
           replace BK165 := Aside0.mk (blk_drew BK165.out)
           replace BK166 := Aside0.mk (blk_drew BK166.out)
           replace BK167 := Aside0.mk (blk_drew BK167.out)
           replace HB := Aside0.mk (below_drew1 HB.out)
           refine start_ (n := 25) (S := fun w' => w'.cell? ⟨gb165, 0, none⟩ = some (.int .u32 t159) ∧ w'.cell? ⟨gb165, 1, none⟩ = some (.int .i64 t160) ∧ w'.cell? ⟨gb166, 0, none⟩ = some (.int .u32 t161) ∧ w'.cell? ⟨gb166, 1, none⟩ = some (.int .i64 t162)) (ds := []) #[false, false, false, false, false, false, false, false, false, false, false, false, false, false, false, false, false, false, false, false, false, false, false, false, false] (by kernel_rfl) rfl rfl ⟨(blk_cell BK165.out 0).trans rfl, (blk_cell BK165.out 1).trans rfl, (blk_cell BK166.out 0).trans rfl, (blk_cell BK166.out 1).trans rfl⟩ (fun hHeld => ?_); refine with_tabW maquettelaw05_PrefixOrder.tab8 maquettelaw05_PrefixOrder.bits8 (fun HT_ HW_ => ?_)
           generalize wc.drew = w262 at BK165 BK166 BK167 HB hHeld ⊢
           refine tk HT_ HW_ 0 (some 66) (mk 25 1) hHeld ?_
           refine tk HT_ HW_ 1 (some 67) (mk 25 3) hHeld ?_
           refine tk HT_ HW_ 8 (some 74) (mk 25 259) hHeld ?_
           refine tk HT_ HW_ 9 (some 75) (mk 25 771) hHeld ?_
           refine pu HT_ 10 (some 76) (mk 25 1795) ?_
           refine on HT_ 2 (some 68) (mk 25 1799) fun K hK => ?_
           refine go1 Tryd.func25 #[.agg #[.int .u32 t159, .int .i64 t160], .agg #[.int .u32 t161, .int .i64 t162]] ?_
           with_reducible refine (prefix_Less.calls t159 t160 t161 t162 false _ A242.out).mono ?_
           rintro e w263 ⟨rfl, hb⟩
           refine ⟨_, rfl, ?_⟩
           replace BK165 := bkb BK165 hb
           replace BK166 := bkb BK166 hb
           replace BK167 := bkb BK167 hb
           replace HB := bst hb
           (try clear hb)
           (try clear hb2)
           (try clear hk)
           (try clear hi)
           refine hK.out _ _ ⟨(blk_cell BK165.out 0).trans rfl, (blk_cell BK165.out 1).trans rfl, (blk_cell BK166.out 0).trans rfl, (blk_cell BK166.out 1).trans rfl⟩ (fun hHeld => ?_)
           clear hK K
           refine nm (some 68) ?_
           refine pu HT_ 3 (some 69) (mk 25 1807) ?_
           refine tk HT_ HW_ 4 (some 70) (mk 25 1823) hHeld ?_
           refine tk HT_ HW_ 5 (some 71) (mk 25 1855) hHeld ?_
           refine on HT_ 6 (some 72) (mk 25 1919) fun K hK => ?_
           refine go1 Tryd.func25 #[.agg #[.int .u32 t161, .int .i64 t162], .agg #[.int .u32 t159, .int .i64 t160]] ?_
           with_reducible refine (prefix_Less.calls t161 t162 t159 t160 t186 _ A257.out).mono ?_
           rintro e w264 ⟨rfl, hb⟩
           refine ⟨_, rfl, ?_⟩
           replace BK165 := bkb BK165 hb
           replace BK166 := bkb BK166 hb
           replace BK167 := bkb BK167 hb
           replace HB := bst hb
           (try clear hb)
           (try clear hb2)
           (try clear hk)
           (try clear hi)
           refine hK.out _ _ ⟨(blk_cell BK165.out 0).trans rfl, (blk_cell BK165.out 1).trans rfl, (blk_cell BK166.out 0).trans rfl, (blk_cell BK166.out 1).trans rfl⟩ (fun hHeld => ?_)
           clear hK K
           refine nm (some 72) ?_
           refine pu HT_ 7 (some 73) (mk 25 2047) ?_
           refine pu HT_ 11 (some 77) (mk 25 4095) ?_
           refine pu HT_ 12 (some 78) (mk 25 8191) ?_
           refine tk HT_ HW_ 13 (some 79) (mk 25 16383) hHeld ?_
           refine tk HT_ HW_ 14 (some 80) (mk 25 32767) hHeld ?_
           refine on HT_ 15 (some 81) (mk 25 65535) fun K hK => ?_
           refine go1 Tryd.func24 #[.agg #[.int .u32 t159, .int .i64 t160], .agg #[.int .u32 t161, .int .i64 t162]] ?_
           with_reducible refine (prefix_Covers.calls t159 t160 t161 t162 true _ A259.out).mono ?_
           rintro e w265 ⟨rfl, hb⟩
           refine ⟨_, rfl, ?_⟩
           replace BK165 := bkb BK165 hb
           replace BK166 := bkb BK166 hb
           replace BK167 := bkb BK167 hb
           replace HB := bst hb
           (try clear hb)
           (try clear hb2)
           (try clear hk)
           (try clear hi)
           refine hK.out _ _ ⟨(blk_cell BK165.out 0).trans rfl, (blk_cell BK165.out 1).trans rfl, (blk_cell BK166.out 0).trans rfl, (blk_cell BK166.out 1).trans rfl⟩ (fun hHeld => ?_)
           clear hK K
           refine nm (some 81) ?_
           refine pu HT_ 16 (some 82) (mk 25 131071) ?_
           refine pu HT_ 17 (some 83) (mk 25 262143) ?_
           refine tk HT_ HW_ 18 (some 84) (mk 25 524287) hHeld ?_
           refine tk HT_ HW_ 19 (some 85) (mk 25 1048575) hHeld ?_
           refine on HT_ 20 (some 86) (mk 25 2097151) fun K hK => ?_
           refine go1 Tryd.func25 #[.agg #[.int .u32 t161, .int .i64 t162], .agg #[.int .u32 t159, .int .i64 t160]] ?_
           with_reducible refine (prefix_Less.calls t161 t162 t159 t160 t188 _ A261.out).mono ?_
           rintro e w266 ⟨rfl, hb⟩
           refine ⟨_, rfl, ?_⟩
           replace BK165 := bkb BK165 hb
           replace BK166 := bkb BK166 hb
           replace BK167 := bkb BK167 hb
           replace HB := bst hb
           (try clear hb)
           (try clear hb2)
           (try clear hk)
           (try clear hi)
           refine hK.out _ _ ⟨(blk_cell BK165.out 0).trans rfl, (blk_cell BK165.out 1).trans rfl, (blk_cell BK166.out 0).trans rfl, (blk_cell BK166.out 1).trans rfl⟩ (fun hHeld => ?_)
           clear hK K
           refine nm (some 86) ?_
           refine pu HT_ 21 (some 87) (mk 25 4194303) ?_
           refine pu HT_ 22 (some 88) (mk 25 8388607) ?_
           refine pu HT_ 23 (some 89) (mk 25 16777215) ?_
           refine pu HT_ 24 (some 6) (mk 25 33554431) ?_
           refine done_ (done_of HT_.out (by kernel_rfl)) ?_
           try go_wp2
           go_ret
           exact ⟨by first | rfl | (simp [errW_none, errW_some] <;> rfl) | (simp [*, errW_none, errW_some] <;> rfl), by repeat (first | (with_reducible first | exact HB.out | apply below_alloc | apply pw_below_drewN | apply below_drew1 | refine below_set ?_ GE165.out | refine below_set ?_ GE166.out | refine below_set ?_ GE167.out) | exact HB.out)⟩
          ·replace c260 := Bool.eq_false_iff.mpr c260
           subst c260
           have H1 : (some true) = some r := by rw [if_neg (show ¬ (false = true) by decide)] at H; exact H
           clear H
           have H := H1
           clear H1
           obtain rfl := Option.some.inj H
           try go_wp2
           replace BK165 := Aside0.mk (blk_drew BK165.out)
           replace BK166 := Aside0.mk (blk_drew BK166.out)
           replace BK167 := Aside0.mk (blk_drew BK167.out)
           replace HB := Aside0.mk (below_drew1 HB.out)
           refine start_ (n := 25) (S := fun w' => w'.cell? ⟨gb165, 0, none⟩ = some (.int .u32 t159) ∧ w'.cell? ⟨gb165, 1, none⟩ = some (.int .i64 t160) ∧ w'.cell? ⟨gb166, 0, none⟩ = some (.int .u32 t161) ∧ w'.cell? ⟨gb166, 1, none⟩ = some (.int .i64 t162)) (ds := []) #[false, false, false, false, false, false, false, false, false, false, false, false, false, false, false, false, false, false, false, false, false, false, false, false, false] (by kernel_rfl) rfl rfl ⟨(blk_cell BK165.out 0).trans rfl, (blk_cell BK165.out 1).trans rfl, (blk_cell BK166.out 0).trans rfl, (blk_cell BK166.out 1).trans rfl⟩ (fun hHeld => ?_); refine with_tabW maquettelaw05_PrefixOrder.tab8 maquettelaw05_PrefixOrder.bits8 (fun HT_ HW_ => ?_)
           generalize wc.drew = w267 at BK165 BK166 BK167 HB hHeld ⊢
           refine tk HT_ HW_ 0 (some 66) (mk 25 1) hHeld ?_
           refine tk HT_ HW_ 1 (some 67) (mk 25 3) hHeld ?_
           refine tk HT_ HW_ 8 (some 74) (mk 25 259) hHeld ?_
           refine tk HT_ HW_ 9 (some 75) (mk 25 771) hHeld ?_
           refine pu HT_ 10 (some 76) (mk 25 1795) ?_
           refine on HT_ 2 (some 68) (mk 25 1799) fun K hK => ?_
           refine go1 Tryd.func25 #[.agg #[.int .u32 t159, .int .i64 t160], .agg #[.int .u32 t161, .int .i64 t162]] ?_
           with_reducible refine (prefix_Less.calls t159 t160 t161 t162 false _ A242.out).mono ?_
           rintro e w268 ⟨rfl, hb⟩
           refine ⟨_, rfl, ?_⟩
           replace BK165 := bkb BK165 hb
           replace BK166 := bkb BK166 hb
           replace BK167 := bkb BK167 hb
           replace HB := bst hb
           (try clear hb)
           (try clear hb2)
           (try clear hk)
           (try clear hi)
           refine hK.out _ _ ⟨(blk_cell BK165.out 0).trans rfl, (blk_cell BK165.out 1).trans rfl, (blk_cell BK166.out 0).trans rfl, (blk_cell BK166.out 1).trans rfl⟩ (fun hHeld => ?_)
           clear hK K
           refine nm (some 68) ?_
           refine pu HT_ 3 (some 69) (mk 25 1807) ?_
           refine tk HT_ HW_ 4 (some 70) (mk 25 1823) hHeld ?_
           refine tk HT_ HW_ 5 (some 71) (mk 25 1855) hHeld ?_
           refine on HT_ 6 (some 72) (mk 25 1919) fun K hK => ?_
           refine go1 Tryd.func25 #[.agg #[.int .u32 t161, .int .i64 t162], .agg #[.int .u32 t159, .int .i64 t160]] ?_
           with_reducible refine (prefix_Less.calls t161 t162 t159 t160 t186 _ A257.out).mono ?_
           rintro e w269 ⟨rfl, hb⟩
           refine ⟨_, rfl, ?_⟩
           replace BK165 := bkb BK165 hb
           replace BK166 := bkb BK166 hb
           replace BK167 := bkb BK167 hb
           replace HB := bst hb
           (try clear hb)
           (try clear hb2)
           (try clear hk)
           (try clear hi)
           refine hK.out _ _ ⟨(blk_cell BK165.out 0).trans rfl, (blk_cell BK165.out 1).trans rfl, (blk_cell BK166.out 0).trans rfl, (blk_cell BK166.out 1).trans rfl⟩ (fun hHeld => ?_)
           clear hK K
           refine nm (some 72) ?_
           refine pu HT_ 7 (some 73) (mk 25 2047) ?_
           refine pu HT_ 11 (some 77) (mk 25 4095) ?_
           refine pu HT_ 12 (some 78) (mk 25 8191) ?_
           refine tk HT_ HW_ 13 (some 79) (mk 25 16383) hHeld ?_
           refine tk HT_ HW_ 14 (some 80) (mk 25 32767) hHeld ?_
           refine on HT_ 15 (some 81) (mk 25 65535) fun K hK => ?_
           refine go1 Tryd.func24 #[.agg #[.int .u32 t159, .int .i64 t160], .agg #[.int .u32 t161, .int .i64 t162]] ?_
           with_reducible refine (prefix_Covers.calls t159 t160 t161 t162 false _ A259.out).mono ?_
           rintro e w270 ⟨rfl, hb⟩
           refine ⟨_, rfl, ?_⟩
           replace BK165 := bkb BK165 hb
           replace BK166 := bkb BK166 hb
           replace BK167 := bkb BK167 hb
           replace HB := bst hb
           (try clear hb)
           (try clear hb2)
           (try clear hk)
           (try clear hi)
           refine hK.out _ _ ⟨(blk_cell BK165.out 0).trans rfl, (blk_cell BK165.out 1).trans rfl, (blk_cell BK166.out 0).trans rfl, (blk_cell BK166.out 1).trans rfl⟩ (fun hHeld => ?_)
           clear hK K
           refine nm (some 81) ?_
           refine pu HT_ 16 (some 82) (mk 25 131071) ?_
           refine pu HT_ 17 (some 83) (mk 25 262143) ?_
           refine pun HT_ 18 (some 84) (mk 25 524287) ?_
           refine pun HT_ 19 (some 85) (mk 25 1048575) ?_
           refine pun HT_ 20 (some 86) (mk 25 2097151) ?_
           refine pun HT_ 21 (some 87) (mk 25 4194303) ?_
           refine pu HT_ 22 (some 88) (mk 25 8388607) ?_
           refine pu HT_ 23 (some 89) (mk 25 16777215) ?_
           refine pu HT_ 24 (some 6) (mk 25 33554431) ?_
           refine done_ (done_of HT_.out (by kernel_rfl)) ?_
           try go_wp2
           go_ret
           exact ⟨by first | rfl | (simp [errW_none, errW_some] <;> rfl) | (simp [*, errW_none, errW_some] <;> rfl), by repeat (first | (with_reducible first | exact HB.out | apply below_alloc | apply pw_below_drewN | apply below_drew1 | refine below_set ?_ GE165.out | refine below_set ?_ GE166.out | refine below_set ?_ GE167.out) | exact HB.out)⟩
         ·rw [if_neg c258] at H
          have c258b0 : (t186 == (!(t159 == t161) || (!(t160 == t162)))) = false := by simpa using c258
          (try (have c258b1 : decide (t186 = (!(t159 == t161) || (!(t160 == t162)))) = false := by simpa using c258))
          (try (have c258b2 : (t186 == (!(t159 == t161) || (!(t160 == t162)))) = false := by simpa using c258))
          (try (have c258b3 : ¬ (t186 = (!(t159 == t161) || (!(t160 == t162)))) := by simpa using c258))
          clear c258
          obtain rfl := Option.some.inj H
          try go_wp2
          replace BK165 := Aside0.mk (blk_drew BK165.out)
          replace BK166 := Aside0.mk (blk_drew BK166.out)
          replace BK167 := Aside0.mk (blk_drew BK167.out)
          replace HB := Aside0.mk (below_drew1 HB.out)
          refine start_ (n := 25) (S := fun w' => w'.cell? ⟨gb165, 0, none⟩ = some (.int .u32 t159) ∧ w'.cell? ⟨gb165, 1, none⟩ = some (.int .i64 t160) ∧ w'.cell? ⟨gb166, 0, none⟩ = some (.int .u32 t161) ∧ w'.cell? ⟨gb166, 1, none⟩ = some (.int .i64 t162)) (ds := []) #[false, false, false, false, false, false, false, false, false, false, false, false, false, false, false, false, false, false, false, false, false, false, false, false, false] (by kernel_rfl) rfl rfl ⟨(blk_cell BK165.out 0).trans rfl, (blk_cell BK165.out 1).trans rfl, (blk_cell BK166.out 0).trans rfl, (blk_cell BK166.out 1).trans rfl⟩ (fun hHeld => ?_); refine with_tabW maquettelaw05_PrefixOrder.tab8 maquettelaw05_PrefixOrder.bits8 (fun HT_ HW_ => ?_)
          generalize wc.drew = w271 at BK165 BK166 BK167 HB hHeld ⊢
          refine tk HT_ HW_ 0 (some 66) (mk 25 1) hHeld ?_
          refine tk HT_ HW_ 1 (some 67) (mk 25 3) hHeld ?_
          refine tk HT_ HW_ 8 (some 74) (mk 25 259) hHeld ?_
          refine tk HT_ HW_ 9 (some 75) (mk 25 771) hHeld ?_
          refine pu HT_ 10 (some 76) (mk 25 1795) ?_
          refine on HT_ 2 (some 68) (mk 25 1799) fun K hK => ?_
          refine go1 Tryd.func25 #[.agg #[.int .u32 t159, .int .i64 t160], .agg #[.int .u32 t161, .int .i64 t162]] ?_
          with_reducible refine (prefix_Less.calls t159 t160 t161 t162 false _ A242.out).mono ?_
          rintro e w272 ⟨rfl, hb⟩
          refine ⟨_, rfl, ?_⟩
          replace BK165 := bkb BK165 hb
          replace BK166 := bkb BK166 hb
          replace BK167 := bkb BK167 hb
          replace HB := bst hb
          (try clear hb)
          (try clear hb2)
          (try clear hk)
          (try clear hi)
          refine hK.out _ _ ⟨(blk_cell BK165.out 0).trans rfl, (blk_cell BK165.out 1).trans rfl, (blk_cell BK166.out 0).trans rfl, (blk_cell BK166.out 1).trans rfl⟩ (fun hHeld => ?_)
          clear hK K
          refine nm (some 68) ?_
          refine pu HT_ 3 (some 69) (mk 25 1807) ?_
          refine tk HT_ HW_ 4 (some 70) (mk 25 1823) hHeld ?_
          refine tk HT_ HW_ 5 (some 71) (mk 25 1855) hHeld ?_
          refine on HT_ 6 (some 72) (mk 25 1919) fun K hK => ?_
          refine go1 Tryd.func25 #[.agg #[.int .u32 t161, .int .i64 t162], .agg #[.int .u32 t159, .int .i64 t160]] ?_
          with_reducible refine (prefix_Less.calls t161 t162 t159 t160 t186 _ A257.out).mono ?_
          rintro e w273 ⟨rfl, hb⟩
          refine ⟨_, rfl, ?_⟩
          replace BK165 := bkb BK165 hb
          replace BK166 := bkb BK166 hb
          replace BK167 := bkb BK167 hb
          replace HB := bst hb
          (try clear hb)
          (try clear hb2)
          (try clear hk)
          (try clear hi)
          refine hK.out _ _ ⟨(blk_cell BK165.out 0).trans rfl, (blk_cell BK165.out 1).trans rfl, (blk_cell BK166.out 0).trans rfl, (blk_cell BK166.out 1).trans rfl⟩ (fun hHeld => ?_)
          clear hK K
          refine nm (some 72) ?_
          refine pu HT_ 7 (some 73) (mk 25 2047) ?_
          refine pu HT_ 11 (some 77) (mk 25 4095) ?_
          refine pu HT_ 12 (some 78) (mk 25 8191) ?_
          refine pun HT_ 13 (some 79) (mk 25 16383) ?_
          refine pun HT_ 14 (some 80) (mk 25 32767) ?_
          refine pun HT_ 15 (some 81) (mk 25 65535) ?_
          refine pun HT_ 16 (some 82) (mk 25 131071) ?_
          refine pun HT_ 17 (some 83) (mk 25 262143) ?_
          refine pun HT_ 18 (some 84) (mk 25 524287) ?_
          refine pun HT_ 19 (some 85) (mk 25 1048575) ?_
          refine pun HT_ 20 (some 86) (mk 25 2097151) ?_
          refine pun HT_ 21 (some 87) (mk 25 4194303) ?_
          refine pun HT_ 22 (some 88) (mk 25 8388607) ?_
          refine pu HT_ 23 (some 89) (mk 25 16777215) ?_
          refine pu HT_ 24 (some 6) (mk 25 33554431) ?_
          refine done_ (done_of HT_.out (by kernel_rfl)) ?_
          try go_wp2
          go_ret
          exact ⟨by first | rfl | (simp [errW_none, errW_some] <;> rfl) | (simp [*, errW_none, errW_some] <;> rfl), by repeat (first | (with_reducible first | exact HB.out | apply below_alloc | apply pw_below_drewN | apply below_drew1 | refine below_set ?_ GE165.out | refine below_set ?_ GE166.out | refine below_set ?_ GE167.out) | exact HB.out)⟩
 ·replace c5 := Bool.eq_false_iff.mpr c5
  subst c5
  have H1 : (some false) = some r := by rw [if_neg (show ¬ (false = true) by decide)] at H; exact H
  clear H
  have H := H1
  clear H1
  obtain rfl := Option.some.inj H
  go_enter Tryd.func8, Tryd.ntmps8
  go_wp2_with (first | ((with_reducible refine gate_dst (N := 10) rfl ?_); refine gl (some 10) Tryd.func15 #[] ?_; (with_reducible refine (maquettelaw05_awake.calls k  false _ A4.out (by with_reducible first | exact hInv | exact Go.Proofs.YtkbjjamaneiijaaDoor.Inv.Inv.below hInv HB.out | exact Go.Proofs.YtkbjjamaneiijaaDoor.Inv.Inv.below hInv bel | (repeat (first | exact hInv | exact Go.Proofs.YtkbjjamaneiijaaDoor.Inv.Inv.below hInv HB.out | exact Go.Proofs.YtkbjjamaneiijaaDoor.Inv.Inv.below hInv bel | apply Go.Proofs.YtkbjjamaneiijaaDoor.Inv.Inv.alloc | apply Go.Proofs.YtkbjjamaneiijaaDoor.Inv.Inv.drewN | apply Go.Proofs.YtkbjjamaneiijaaDoor.Inv.Inv.drew)))).mono ?_); rintro e w274 ⟨rfl, hb⟩; refine ⟨_, rfl, ?_⟩; replace HB := bst hb; (try clear hb); (try clear hb2); (try clear hk); (try clear hi)))
  go_ret
  exact ⟨by first | rfl | (simp [errW_none, errW_some] <;> rfl) | (simp [*, errW_none, errW_some] <;> rfl), by repeat (first | (with_reducible first | exact HB.out | apply below_alloc | apply pw_below_drewN | apply below_drew1) | exact HB.out)⟩

end Go.Proofs.YtkbjjamaneiijaaDoor.PPre
