-- Written by wip/xprint.py of this work: the printer of the kit, with contracts of this work beside it, shortened.
import Derived.Test.YtjcopneljfcfoaaDoorShort
import Derived.Test.YtjcopneljfcfoaaDoorPRawx0
import Derived.Test.YtjcopneljfcfoaaDoorPRawx5
import Derived.Test.YtjcopneljfcfoaaDoorPRawx13
import Derived.Test.YtjcopneljfcfoaaDoorPRawx16
namespace Go.Proofs.YtjcopneljfcfoaaDoor.PRaw
open Go.RowKit Go.Proofs.YtjcopneljfcfoaaDoor.Short Go.Proofs.YtjcopneljfcfoaaDoorW.PrintWords Go.Proofs.YtjcopneljfcfoaaDoorW.PrintLast Go.Proofs.YtjcopneljfcfoaaDoorW.PrintMore
attribute [local go_sem] max2_int min2_int max_two min_two max_three min_three max_four min_four   -- for this text's walks alone
set_option linter.unusedVariables false
set_option linter.unusedSimpArgs false

/-! ### maquettelaw07_Text: function 11 -/
mutual
def maquettelaw07_Text.l0 : Nat → ByteArray → List (S36) → Int → Int → List (S36) → List (S46) → Option (ByteArray)
 | 0, _, _, _, _, _, _ => none
 | k + 1, x3, x17, x18, x19, x140000, x140001 => if x19 < x18 then (if 0 ≤ x19 then (if x19 < (x17.length : Int) then (if x3.size + 4 ≤ 9223372036854775807 then (if (x3 ++ (⟨#[109, 97, 112, 32]⟩ : ByteArray)).size + ((rd_T36 x17 x19).f0).size ≤ 9223372036854775807 then (if ((x3 ++ (⟨#[109, 97, 112, 32]⟩ : ByteArray)) ++ ((rd_T36 x17 x19).f0)).size + 3 ≤ 9223372036854775807 then (maquettelaw07_Text.l1 k (((x3 ++ (⟨#[109, 97, 112, 32]⟩ : ByteArray)) ++ ((rd_T36 x17 x19).f0)) ++ (⟨#[32, 123, 10]⟩ : ByteArray)) x17 x18 x19 ((rd_T36 x17 x19).f1) (((rd_T36 x17 x19).f1).length : Int) 0 x140000 x140001) else (none)) else (none)) else (none)) else (none)) else (none)) else (maquettelaw07_Text.l2 k x3 x140001 (x140001.length : Int) 0)
def maquettelaw07_Text.l1 : Nat → ByteArray → List (S36) → Int → Int → List (S41) → Int → Int → List (S36) → List (S46) → Option (ByteArray)
 | 0, _, _, _, _, _, _, _, _, _ => none
 | k + 1, x3, x17, x18, x19, x30, x31, x32, x140000, x140001 => if x32 < x31 then (if 0 ≤ x32 then (if x32 < (x30.length : Int) then ((maquettelaw07_line.f k ((rd_T41 x30 x32).f0) ((rd_T41 x30 x32).f1.f0) ((rd_T41 x30 x32).f1.f1) ((rd_T41 x30 x32).f2) ((rd_T41 x30 x32).f3) ((rd_T41 x30 x32).f4) ((rd_T41 x30 x32).f5) ((rd_T41 x30 x32).f6) ((rd_T41 x30 x32).f7) ((rd_T41 x30 x32).f8)).bind fun t144 => (if x3.size + t144.size ≤ 9223372036854775807 then (maquettelaw07_Text.l1 k (x3 ++ t144) x17 x18 x19 x30 x31 (wrap64 (x32 + 1)) x140000 x140001) else (none))) else (none)) else (none)) else (if x3.size + 2 ≤ 9223372036854775807 then (maquettelaw07_Text.l0 k (x3 ++ (⟨#[125, 10]⟩ : ByteArray)) x17 x18 (wrap64 (x19 + 1)) x140000 x140001) else (none))
def maquettelaw07_Text.l2 : Nat → ByteArray → List (S46) → Int → Int → Option (ByteArray)
 | 0, _, _, _, _ => none
 | k + 1, x3, x45, x46, x47 => if x47 < x46 then (if 0 ≤ x47 then (if x47 < (x45.length : Int) then (if x3.size + 7 ≤ 9223372036854775807 then (if (x3 ++ (⟨#[114, 111, 117, 116, 101, 114, 32]⟩ : ByteArray)).size + ((rd_T46 x45 x47).f0).size ≤ 9223372036854775807 then (if ((x3 ++ (⟨#[114, 111, 117, 116, 101, 114, 32]⟩ : ByteArray)) ++ ((rd_T46 x45 x47).f0)).size + 3 ≤ 9223372036854775807 then (maquettelaw07_Text.l3 k (((x3 ++ (⟨#[114, 111, 117, 116, 101, 114, 32]⟩ : ByteArray)) ++ ((rd_T46 x45 x47).f0)) ++ (⟨#[32, 123, 10]⟩ : ByteArray)) x45 x46 x47 ((rd_T46 x45 x47).f1) (((rd_T46 x45 x47).f1).length : Int) 0 ((rd_T46 x45 x47).f0) ((rd_T46 x45 x47).f1) ((rd_T46 x45 x47).f2) ((rd_T46 x45 x47).f3) ((rd_T46 x45 x47).f4)) else (none)) else (none)) else (none)) else (none)) else (none)) else (some x3)
def maquettelaw07_Text.l3 : Nat → ByteArray → List (S46) → Int → Int → List (S39) → Int → Int → ByteArray → List (S39) → List (S48) → List (S60) → Int → Option (ByteArray)
 | 0, _, _, _, _, _, _, _, _, _, _, _, _ => none
 | k + 1, x3, x45, x46, x47, x58, x59, x60, x147000, x147001, x147002, x147003, x147004 => if x60 < x59 then (if 0 ≤ x60 then (if x60 < (x58.length : Int) then (if x3.size + 5 ≤ 9223372036854775807 then ((prefix_Text.f k ((rd_T39 x58 x60).f0) ((rd_T39 x58 x60).f1)).bind fun t149 => (if (x3 ++ (⟨#[9, 110, 101, 116, 32]⟩ : ByteArray)).size + t149.size ≤ 9223372036854775807 then (if ((x3 ++ (⟨#[9, 110, 101, 116, 32]⟩ : ByteArray)) ++ t149).size + 2 ≤ 9223372036854775807 then (maquettelaw07_Text.l3 k (((x3 ++ (⟨#[9, 110, 101, 116, 32]⟩ : ByteArray)) ++ t149) ++ (⟨#[59, 10]⟩ : ByteArray)) x45 x46 x47 x58 x59 (wrap64 (x60 + 1)) x147000 x147001 x147002 x147003 x147004) else (none)) else (none))) else (none)) else (none)) else (none)) else (maquettelaw07_Text.l4 k x3 x45 x46 x47 x147002 (x147002.length : Int) 0 x147000 x147001 x147002 x147003 x147004)
def maquettelaw07_Text.l4 : Nat → ByteArray → List (S46) → Int → Int → List (S48) → Int → Int → ByteArray → List (S39) → List (S48) → List (S60) → Int → Option (ByteArray)
 | 0, _, _, _, _, _, _, _, _, _, _, _, _ => none
 | k + 1, x3, x45, x46, x47, x72, x73, x74, x147000, x147001, x147002, x147003, x147004 => if x74 < x73 then (if 0 ≤ x74 then (if x74 < (x72.length : Int) then (if x3.size + 6 ≤ 9223372036854775807 then (if (x3 ++ (⟨#[9, 108, 105, 110, 107, 32]⟩ : ByteArray)).size + ((rd_T48 x72 x74).f0).size ≤ 9223372036854775807 then (if ((x3 ++ (⟨#[9, 108, 105, 110, 107, 32]⟩ : ByteArray)) ++ ((rd_T48 x72 x74).f0)).size + 6 ≤ 9223372036854775807 then ((maquettelaw07_digits.f k ((rd_T48 x72 x74).f1)).bind fun t152 => (if (((x3 ++ (⟨#[9, 108, 105, 110, 107, 32]⟩ : ByteArray)) ++ ((rd_T48 x72 x74).f0)) ++ (⟨#[32, 99, 111, 115, 116, 32]⟩ : ByteArray)).size + t152.size ≤ 9223372036854775807 then (if ((rd_T48 x72 x74).f2).toList = ([] : List UInt8) then (if ((rd_T48 x72 x74).f3).toList = ([] : List UInt8) then (if ((((x3 ++ (⟨#[9, 108, 105, 110, 107, 32]⟩ : ByteArray)) ++ ((rd_T48 x72 x74).f0)) ++ (⟨#[32, 99, 111, 115, 116, 32]⟩ : ByteArray)) ++ t152).size + 2 ≤ 9223372036854775807 then (maquettelaw07_Text.l4 k (((((x3 ++ (⟨#[9, 108, 105, 110, 107, 32]⟩ : ByteArray)) ++ ((rd_T48 x72 x74).f0)) ++ (⟨#[32, 99, 111, 115, 116, 32]⟩ : ByteArray)) ++ t152) ++ (⟨#[59, 10]⟩ : ByteArray)) x45 x46 x47 x72 x73 (wrap64 (x74 + 1)) x147000 x147001 x147002 x147003 x147004) else (none)) else (if ((((x3 ++ (⟨#[9, 108, 105, 110, 107, 32]⟩ : ByteArray)) ++ ((rd_T48 x72 x74).f0)) ++ (⟨#[32, 99, 111, 115, 116, 32]⟩ : ByteArray)) ++ t152).size + 8 ≤ 9223372036854775807 then (if (((((x3 ++ (⟨#[9, 108, 105, 110, 107, 32]⟩ : ByteArray)) ++ ((rd_T48 x72 x74).f0)) ++ (⟨#[32, 99, 111, 115, 116, 32]⟩ : ByteArray)) ++ t152) ++ (⟨#[32, 101, 120, 112, 111, 114, 116, 32]⟩ : ByteArray)).size + ((rd_T48 x72 x74).f3).size ≤ 9223372036854775807 then (if ((((((x3 ++ (⟨#[9, 108, 105, 110, 107, 32]⟩ : ByteArray)) ++ ((rd_T48 x72 x74).f0)) ++ (⟨#[32, 99, 111, 115, 116, 32]⟩ : ByteArray)) ++ t152) ++ (⟨#[32, 101, 120, 112, 111, 114, 116, 32]⟩ : ByteArray)) ++ ((rd_T48 x72 x74).f3)).size + 2 ≤ 9223372036854775807 then (maquettelaw07_Text.l4 k (((((((x3 ++ (⟨#[9, 108, 105, 110, 107, 32]⟩ : ByteArray)) ++ ((rd_T48 x72 x74).f0)) ++ (⟨#[32, 99, 111, 115, 116, 32]⟩ : ByteArray)) ++ t152) ++ (⟨#[32, 101, 120, 112, 111, 114, 116, 32]⟩ : ByteArray)) ++ ((rd_T48 x72 x74).f3)) ++ (⟨#[59, 10]⟩ : ByteArray)) x45 x46 x47 x72 x73 (wrap64 (x74 + 1)) x147000 x147001 x147002 x147003 x147004) else (none)) else (none)) else (none))) else (if ((((x3 ++ (⟨#[9, 108, 105, 110, 107, 32]⟩ : ByteArray)) ++ ((rd_T48 x72 x74).f0)) ++ (⟨#[32, 99, 111, 115, 116, 32]⟩ : ByteArray)) ++ t152).size + 8 ≤ 9223372036854775807 then (if (((((x3 ++ (⟨#[9, 108, 105, 110, 107, 32]⟩ : ByteArray)) ++ ((rd_T48 x72 x74).f0)) ++ (⟨#[32, 99, 111, 115, 116, 32]⟩ : ByteArray)) ++ t152) ++ (⟨#[32, 105, 109, 112, 111, 114, 116, 32]⟩ : ByteArray)).size + ((rd_T48 x72 x74).f2).size ≤ 9223372036854775807 then (if ((rd_T48 x72 x74).f3).toList = ([] : List UInt8) then (if ((((((x3 ++ (⟨#[9, 108, 105, 110, 107, 32]⟩ : ByteArray)) ++ ((rd_T48 x72 x74).f0)) ++ (⟨#[32, 99, 111, 115, 116, 32]⟩ : ByteArray)) ++ t152) ++ (⟨#[32, 105, 109, 112, 111, 114, 116, 32]⟩ : ByteArray)) ++ ((rd_T48 x72 x74).f2)).size + 2 ≤ 9223372036854775807 then (maquettelaw07_Text.l4 k (((((((x3 ++ (⟨#[9, 108, 105, 110, 107, 32]⟩ : ByteArray)) ++ ((rd_T48 x72 x74).f0)) ++ (⟨#[32, 99, 111, 115, 116, 32]⟩ : ByteArray)) ++ t152) ++ (⟨#[32, 105, 109, 112, 111, 114, 116, 32]⟩ : ByteArray)) ++ ((rd_T48 x72 x74).f2)) ++ (⟨#[59, 10]⟩ : ByteArray)) x45 x46 x47 x72 x73 (wrap64 (x74 + 1)) x147000 x147001 x147002 x147003 x147004) else (none)) else (if ((((((x3 ++ (⟨#[9, 108, 105, 110, 107, 32]⟩ : ByteArray)) ++ ((rd_T48 x72 x74).f0)) ++ (⟨#[32, 99, 111, 115, 116, 32]⟩ : ByteArray)) ++ t152) ++ (⟨#[32, 105, 109, 112, 111, 114, 116, 32]⟩ : ByteArray)) ++ ((rd_T48 x72 x74).f2)).size + 8 ≤ 9223372036854775807 then (if (((((((x3 ++ (⟨#[9, 108, 105, 110, 107, 32]⟩ : ByteArray)) ++ ((rd_T48 x72 x74).f0)) ++ (⟨#[32, 99, 111, 115, 116, 32]⟩ : ByteArray)) ++ t152) ++ (⟨#[32, 105, 109, 112, 111, 114, 116, 32]⟩ : ByteArray)) ++ ((rd_T48 x72 x74).f2)) ++ (⟨#[32, 101, 120, 112, 111, 114, 116, 32]⟩ : ByteArray)).size + ((rd_T48 x72 x74).f3).size ≤ 9223372036854775807 then (if ((((((((x3 ++ (⟨#[9, 108, 105, 110, 107, 32]⟩ : ByteArray)) ++ ((rd_T48 x72 x74).f0)) ++ (⟨#[32, 99, 111, 115, 116, 32]⟩ : ByteArray)) ++ t152) ++ (⟨#[32, 105, 109, 112, 111, 114, 116, 32]⟩ : ByteArray)) ++ ((rd_T48 x72 x74).f2)) ++ (⟨#[32, 101, 120, 112, 111, 114, 116, 32]⟩ : ByteArray)) ++ ((rd_T48 x72 x74).f3)).size + 2 ≤ 9223372036854775807 then (maquettelaw07_Text.l4 k (((((((((x3 ++ (⟨#[9, 108, 105, 110, 107, 32]⟩ : ByteArray)) ++ ((rd_T48 x72 x74).f0)) ++ (⟨#[32, 99, 111, 115, 116, 32]⟩ : ByteArray)) ++ t152) ++ (⟨#[32, 105, 109, 112, 111, 114, 116, 32]⟩ : ByteArray)) ++ ((rd_T48 x72 x74).f2)) ++ (⟨#[32, 101, 120, 112, 111, 114, 116, 32]⟩ : ByteArray)) ++ ((rd_T48 x72 x74).f3)) ++ (⟨#[59, 10]⟩ : ByteArray)) x45 x46 x47 x72 x73 (wrap64 (x74 + 1)) x147000 x147001 x147002 x147003 x147004) else (none)) else (none)) else (none))) else (none)) else (none))) else (none))) else (none)) else (none)) else (none)) else (none)) else (none)) else (maquettelaw07_Text.l5 k x3 x45 x46 x47 x147003 (x147003.length : Int) 0)
def maquettelaw07_Text.l5 : Nat → ByteArray → List (S46) → Int → Int → List (S60) → Int → Int → Option (ByteArray)
 | 0, _, _, _, _, _, _, _ => none
 | k + 1, x3, x45, x46, x47, x108, x109, x110 => if x110 < x109 then (if 0 ≤ x110 then (if x110 < (x108.length : Int) then (if x3.size + 8 ≤ 9223372036854775807 then ((prefix_Text.f k ((rd_T60 x108 x110).f0.f0) ((rd_T60 x108 x110).f0.f1)).bind fun t155 => (if (x3 ++ (⟨#[9, 115, 116, 97, 116, 105, 99, 32]⟩ : ByteArray)).size + t155.size ≤ 9223372036854775807 then (if ((x3 ++ (⟨#[9, 115, 116, 97, 116, 105, 99, 32]⟩ : ByteArray)) ++ t155).size + 5 ≤ 9223372036854775807 then (if (((x3 ++ (⟨#[9, 115, 116, 97, 116, 105, 99, 32]⟩ : ByteArray)) ++ t155) ++ (⟨#[32, 118, 105, 97, 32]⟩ : ByteArray)).size + ((rd_T60 x108 x110).f1).size ≤ 9223372036854775807 then (if ((((x3 ++ (⟨#[9, 115, 116, 97, 116, 105, 99, 32]⟩ : ByteArray)) ++ t155) ++ (⟨#[32, 118, 105, 97, 32]⟩ : ByteArray)) ++ ((rd_T60 x108 x110).f1)).size + 2 ≤ 9223372036854775807 then (maquettelaw07_Text.l5 k (((((x3 ++ (⟨#[9, 115, 116, 97, 116, 105, 99, 32]⟩ : ByteArray)) ++ t155) ++ (⟨#[32, 118, 105, 97, 32]⟩ : ByteArray)) ++ ((rd_T60 x108 x110).f1)) ++ (⟨#[59, 10]⟩ : ByteArray)) x45 x46 x47 x108 x109 (wrap64 (x110 + 1))) else (none)) else (none)) else (none)) else (none))) else (none)) else (none)) else (none)) else (if x3.size + 2 ≤ 9223372036854775807 then (maquettelaw07_Text.l2 k (x3 ++ (⟨#[125, 10]⟩ : ByteArray)) x45 x46 (wrap64 (x47 + 1))) else (none))
end
def maquettelaw07_Text.f (k : Nat) (l0_0 : List (S36)) (l0_1 : List (S46)) : Option (ByteArray) := maquettelaw07_Text.l0 k (⟨#[]⟩ : ByteArray) l0_0 (l0_0.length : Int) 0 l0_0 l0_1
theorem maquettelaw07_Text.mono_l : ∀ k, (∀ y0 y1 y2 y3 y4 y5, LeO (maquettelaw07_Text.l0 k y0 y1 y2 y3 y4 y5) (maquettelaw07_Text.l0 (k + 1) y0 y1 y2 y3 y4 y5)) ∧ (∀ y0 y1 y2 y3 y4 y5 y6 y7 y8, LeO (maquettelaw07_Text.l1 k y0 y1 y2 y3 y4 y5 y6 y7 y8) (maquettelaw07_Text.l1 (k + 1) y0 y1 y2 y3 y4 y5 y6 y7 y8)) ∧ (∀ y0 y1 y2 y3, LeO (maquettelaw07_Text.l2 k y0 y1 y2 y3) (maquettelaw07_Text.l2 (k + 1) y0 y1 y2 y3)) ∧ (∀ y0 y1 y2 y3 y4 y5 y6 y7 y8 y9 y10 y11, LeO (maquettelaw07_Text.l3 k y0 y1 y2 y3 y4 y5 y6 y7 y8 y9 y10 y11) (maquettelaw07_Text.l3 (k + 1) y0 y1 y2 y3 y4 y5 y6 y7 y8 y9 y10 y11)) ∧ (∀ y0 y1 y2 y3 y4 y5 y6 y7 y8 y9 y10 y11, LeO (maquettelaw07_Text.l4 k y0 y1 y2 y3 y4 y5 y6 y7 y8 y9 y10 y11) (maquettelaw07_Text.l4 (k + 1) y0 y1 y2 y3 y4 y5 y6 y7 y8 y9 y10 y11)) ∧ (∀ y0 y1 y2 y3 y4 y5 y6, LeO (maquettelaw07_Text.l5 k y0 y1 y2 y3 y4 y5 y6) (maquettelaw07_Text.l5 (k + 1) y0 y1 y2 y3 y4 y5 y6))
 | 0 => ⟨fun _ _ _ _ _ _ r h => by simp [maquettelaw07_Text.l0] at h, fun _ _ _ _ _ _ _ _ _ r h => by simp [maquettelaw07_Text.l1] at h, fun _ _ _ _ r h => by simp [maquettelaw07_Text.l2] at h, fun _ _ _ _ _ _ _ _ _ _ _ _ r h => by simp [maquettelaw07_Text.l3] at h, fun _ _ _ _ _ _ _ _ _ _ _ _ r h => by simp [maquettelaw07_Text.l4] at h, fun _ _ _ _ _ _ _ r h => by simp [maquettelaw07_Text.l5] at h⟩
 | k + 1 => by
  obtain ⟨ih0, ih1, ih2, ih3, ih4, ih5⟩ := maquettelaw07_Text.mono_l k
  refine ⟨?_, ?_, ?_, ?_, ?_, ?_⟩<;> intros <;> (first | unfold maquettelaw07_Text.l0 | unfold maquettelaw07_Text.l1 | unfold maquettelaw07_Text.l2 | unfold maquettelaw07_Text.l3 | unfold maquettelaw07_Text.l4 | unfold maquettelaw07_Text.l5) <;> repeat' first
   | (with_reducible exact ih0 _ _ _ _ _ _)
   | (with_reducible exact ih1 _ _ _ _ _ _ _ _ _)
   | (with_reducible exact ih2 _ _ _ _)
   | (with_reducible exact ih3 _ _ _ _ _ _ _ _ _ _ _ _)
   | (with_reducible exact ih4 _ _ _ _ _ _ _ _ _ _ _ _)
   | (with_reducible exact ih5 _ _ _ _ _ _ _)
   | (with_reducible exact maquettelaw07_digits.mono _ _)
   | (with_reducible exact maquettelaw07_line.mono _ _ _ _ _ _ _ _ _ _ _)
   | (with_reducible exact prefix_Text.mono _ _ _)
   | (with_reducible exact LeO.refl _)
   | (with_reducible exact LeO.none _)
   | (with_reducible refine LeO.ite ?_ ?_)
   | (with_reducible refine LeO.bind ?_ (fun _ => ?_))
   | exact ih0 _ _ _ _ _ _
   | exact ih1 _ _ _ _ _ _ _ _ _
   | exact ih2 _ _ _ _
   | exact ih3 _ _ _ _ _ _ _ _ _ _ _ _
   | exact ih4 _ _ _ _ _ _ _ _ _ _ _ _
   | exact ih5 _ _ _ _ _ _ _
   | exact maquettelaw07_digits.mono _ _
   | exact maquettelaw07_line.mono _ _ _ _ _ _ _ _ _ _ _
   | exact prefix_Text.mono _ _ _
   | exact LeO.none _
   | refine LeO.ite ?_ ?_
   | refine LeO.bind ?_ (fun _ => ?_)
theorem maquettelaw07_Text.mono : ∀ a0 a1 k, LeO (maquettelaw07_Text.f k a0 a1) (maquettelaw07_Text.f (k + 1) a0 a1) := by
 intro a0 a1 k
 obtain ⟨ih0, ih1, ih2, ih3, ih4, ih5⟩ := maquettelaw07_Text.mono_l k
 unfold maquettelaw07_Text.f
 repeat' first
   | (with_reducible exact ih0 _ _ _ _ _ _)
   | (with_reducible exact ih1 _ _ _ _ _ _ _ _ _)
   | (with_reducible exact ih2 _ _ _ _)
   | (with_reducible exact ih3 _ _ _ _ _ _ _ _ _ _ _ _)
   | (with_reducible exact ih4 _ _ _ _ _ _ _ _ _ _ _ _)
   | (with_reducible exact ih5 _ _ _ _ _ _ _)
   | (with_reducible exact maquettelaw07_digits.mono _ _)
   | (with_reducible exact maquettelaw07_line.mono _ _ _ _ _ _ _ _ _ _ _)
   | (with_reducible exact prefix_Text.mono _ _ _)
   | (with_reducible exact LeO.refl _)
   | (with_reducible exact LeO.none _)
   | (with_reducible refine LeO.ite ?_ ?_)
   | (with_reducible refine LeO.bind ?_ (fun _ => ?_))
   | exact ih0 _ _ _ _ _ _
   | exact ih1 _ _ _ _ _ _ _ _ _
   | exact ih2 _ _ _ _
   | exact ih3 _ _ _ _ _ _ _ _ _ _ _ _
   | exact ih4 _ _ _ _ _ _ _ _ _ _ _ _
   | exact ih5 _ _ _ _ _ _ _
   | exact maquettelaw07_digits.mono _ _
   | exact maquettelaw07_line.mono _ _ _ _ _ _ _ _ _ _ _
   | exact prefix_Text.mono _ _ _
   | exact LeO.none _
   | refine LeO.ite ?_ ?_
   | refine LeO.bind ?_ (fun _ => ?_)
def maquettelaw07_Text.T25 : Bool × List (List Nat × List Nat) := (true, [([], []), ([0], [0]), ([], []), ([2], [2]), ([1, 3], [1, 3]), ([4], [4]), ([], []), ([6], [6]), ([7], [7]), ([5, 8], [5, 8]), ([9, 8, 0, 1, 2, 3, 4, 5, 6, 7, 8, 9], [0, 9])])
def maquettelaw07_Text.B25 : List Nat := [0, 1, 0, 4, 15, 31, 0, 64, 192, 511, 1023]
theorem maquettelaw07_Text.tab25 : rtab .any (opsOf Tryd.f11 25) = maquettelaw07_Text.T25 := by kernel_rfl
theorem maquettelaw07_Text.bits25 : waitsOk maquettelaw07_Text.T25.2 maquettelaw07_Text.B25 = true := by kernel_rfl
def maquettelaw07_Text.T35 : Bool × List (List Nat × List Nat) := (true, [([], []), ([0], [0]), ([], []), ([2], [2]), ([3], [3]), ([1, 4], [1, 4]), ([5], [5]), ([], []), ([7], [7]), ([6, 8], [6, 8]), ([9], [9]), ([10, 4, 0, 1, 2, 3, 4, 5, 6, 7, 8, 9, 10], [0, 10])])
def maquettelaw07_Text.B35 : List Nat := [0, 1, 0, 4, 12, 31, 63, 0, 128, 511, 1023, 2047]
theorem maquettelaw07_Text.tab35 : rtab .any (opsOf Tryd.f11 35) = maquettelaw07_Text.T35 := by kernel_rfl
theorem maquettelaw07_Text.bits35 : waitsOk maquettelaw07_Text.T35.2 maquettelaw07_Text.B35 = true := by kernel_rfl
set_option maxHeartbeats 8000000 in
set_option maxRecDepth 100000 in
theorem maquettelaw07_Text.calls (k : Nat) (A0_0 : Option Addr) (c0_0 : Nat) (l0_0 : List (S36)) (A0_1 : Option Addr) (c0_1 : Nat) (l0_1 : List (S46)) (r : ByteArray) (w : World) (hr0_0 : Kd.C k36 w A0_0 l0_0.length l0_0) (hc0_0 : l0_0.length ≤ c0_0) (hr0_1 : Kd.C k46 w A0_1 l0_1.length l0_1) (hc0_1 : l0_1.length ≤ c0_1) (h : maquettelaw07_Text.f k l0_0 l0_1 = some r) (hInv : Go.Proofs.YtjcopneljfcfoaaDoor.Inv.Inv w) :
  Calls Tryd.prog 11 #[.agg #[.slice A0_0 l0_0.length c0_0, .slice A0_1 l0_1.length c0_1]] w fun e w' => e = .returned (.string r) ∧ Below w.heap.size w w' := by
 have hu30 := Tryd.underlying30
 have hu36 := Tryd.underlying36
 have hu41 := Tryd.underlying41
 have hu46 := Tryd.underlying46
 have hu39 := Tryd.underlying39
 have hu48 := Tryd.underlying48
 have hu60 := Tryd.underlying60
 have HR0_0 := Aside0.mk hr0_0
 have HC0_0 := Aside0.mk hc0_0
 clear hr0_0 hc0_0
 have HR0_1 := Aside0.mk hr0_1
 have HC0_1 := Aside0.mk hc0_1
 clear hr0_1 hc0_1
 have HB := Aside0.mk (Below.refl w.heap.size w)
 have H : (maquettelaw07_Text.l0 k (⟨#[]⟩ : ByteArray) l0_0 (l0_0.length : Int) 0 l0_0 l0_1) = some r := h
 clear h
 have H' := Aside0.mk H
 clear H
 go_enter Tryd.func11, Tryd.ntmps11
 go_wp2_with (first | ((with_reducible refine gate_dst (N := 1) rfl ?_); refine bx 1 (cs := #[.slice A0_0 l0_0.length c0_0, .slice A0_1 l0_1.length c0_1]) (t := 30) (h := ?_); intro gb139 hg w2 hbox hb; have BK139 := Aside0.mk hbox; have GW139 : Aside0 (w.heap.size ≤ gb139) := bge hg; have GE139 : Aside0 (w.heap.size ≤ gb139) := bge hg; replace HB := bst hb; clear hb hbox hg; obtain ⟨hcz3_0, hcz3_1, hfz3_0, hfz3_1⟩ := bc2 BK139))
 go_loopg [3, 19] k (fun kq v3 v19 w' => ∃ (x3_1 : ByteArray) (x19_1 : Int), v3 = .string x3_1 ∧ v19 = .int .i64 x19_1 ∧ Aside0 (maquettelaw07_Text.l0 kq x3_1 l0_0 (l0_0.length : Int) x19_1 l0_0 l0_1 = some r) ∧ Aside0 (kq ≤ k) ∧ Aside0 (w'.heap[gb139]? = some (.cells #[(.slice A0_0 l0_0.length c0_0), (.slice A0_1 l0_1.length c0_1)] 30 (0, 0))) ∧ Aside0 (Below w.heap.size w w'))
 case atStart => exact ⟨((⟨#[]⟩ : ByteArray)), (0), (by first | rfl | (simp; done) | (simp [*]; done)), (by first | rfl | (simp; done) | (simp [*]; done)), H', ⟨Nat.le_refl _⟩, ⟨bkq BK139⟩, ⟨by repeat (first | (with_reducible first | exact HB.out | apply below_alloc | apply pw_below_drewN | apply below_drew1 | refine below_set ?_ GE139.out) | exact HB.out)⟩⟩
 case round =>
  clear H'
  try clear c1
  try clear p2
  try clear hcz3_0 hcz3_1 hfz3_0 hfz3_1
  obtain ⟨x3_1, x19_1, rfl, rfl, HA, HK1, BK139, HB⟩ := hrel
  cases gk with
  | zero => exact absurd HA.out (by simp [maquettelaw07_Text.l0])
  | succ k1 =>
   have H := HA.out
   clear HA
   simp only [maquettelaw07_Text.l0] at H
   by_cases c4 : x19_1 < (l0_0.length : Int)
   ·rw [if_pos c4] at H
    have c4b0 := decide_eq_true c4
    clear c4
    by_cases c5 : 0 ≤ x19_1
    ·rw [if_pos c5] at H
     have c5b0 := decide_eq_true c5
     clear c5
     by_cases c6 : x19_1 < (l0_0.length : Int)
     ·rw [if_pos c6] at H
      have c6b0 := decide_eq_true c6
      clear c6
      by_cases c7 : x3_1.size + 4 ≤ 9223372036854775807
      ·rw [if_pos c7] at H
       have c7b0 := eq_true c7
       have c7b1 := decide_eq_true c7
       try have c7b2 := eq_false (Nat.not_lt.2 c7)
       by_cases c8 : (x3_1 ++ (⟨#[109, 97, 112, 32]⟩ : ByteArray)).size + ((rd_T36 l0_0 x19_1).f0).size ≤ 9223372036854775807
       ·rw [if_pos c8] at H
        have c8b0 := eq_true c8
        have c8b1 := decide_eq_true c8
        try have c8b2 := eq_false (Nat.not_lt.2 c8)
        try have c8b3 : (9223372036854775807 < x3_1.size + 4 + ((rd_T36 l0_0 x19_1).f0).size) = False := by (have h_ := c8; simp only [ByteArray.size_append] at h_; exact eq_false (Nat.not_lt.2 h_))
        by_cases c9 : ((x3_1 ++ (⟨#[109, 97, 112, 32]⟩ : ByteArray)) ++ ((rd_T36 l0_0 x19_1).f0)).size + 3 ≤ 9223372036854775807
        ·rw [if_pos c9] at H
         have c9b0 := eq_true c9
         have c9b1 := decide_eq_true c9
         try have c9b2 := eq_false (Nat.not_lt.2 c9)
         try have c9b3 : (9223372036854775807 < x3_1.size + 4 + ((rd_T36 l0_0 x19_1).f0).size + 3) = False := by (have h_ := c9; simp only [ByteArray.size_append] at h_; exact eq_false (Nat.not_lt.2 h_))
         have H' := Aside0.mk H
         clear H
         have p140 : 0 ≤ (x19_1 : Int) := of_decide_eq_true (by first | (with_reducible assumption) | assumption)
         have q140 : x19_1 < (l0_0.length : Int) := of_decide_eq_true (by first | (with_reducible assumption) | assumption)
         obtain ⟨ad140, A140_1, c140_1, e140, hx140_0, hx140_1, hx140_2, hl140_1, hi140_1⟩ := at_T36 HR0_0.out x19_1 p140 q140
         cases e140
         replace hx140_0 := (HB.out.cell (World.block_lt_of_cell? w _ hx140_0)).trans hx140_0
         replace hx140_1 := (HB.out.cell (World.block_lt_of_cell? w _ hx140_1)).trans hx140_1
         replace hx140_2 := (HB.out.cell (World.block_lt_of_cell? w _ hx140_2)).trans hx140_2
         have HR140_1 := Aside0.mk hi140_1
         have HC140_1 := Aside0.mk hl140_1
         clear hi140_1 hl140_1
         replace p140 := eq_true p140
         replace q140 := eq_true q140
         go_wp2_with (first | ((with_reducible refine gate_dst (N := 5) rfl ?_); refine bx 5 (cs := #[.string (⟨#[]⟩ : ByteArray), .slice none 0 0, .int .i64 0]) (t := 36) (h := ?_); intro gb141 hg w10 hbox hb; have BK141 := Aside0.mk hbox; have GW141 : Aside0 (w.heap.size ≤ gb141) := bge hg; have GE141 : Aside0 (w.heap.size ≤ gb141) := bge hg; have NB139_141 := bne BK139 hg; have NB141_139 := bnf BK139 hg; replace BK139 := bkb BK139 hb; replace HB := bst hb; clear hb hbox hg; have hnb11 := NB141_139.out; have hnc11 := NB139_141.out; obtain ⟨hcz12_0, hcz12_1, hcz12_2, hfz12_0, hfz12_1, hfz12_2⟩ := bc3 BK141))
         go_loopg [3, 32] k1 (fun kq v3 v32 w' => ∃ (x3_2 : ByteArray) (x32_2 : Int), v3 = .string x3_2 ∧ v32 = .int .i64 x32_2 ∧ Aside0 (maquettelaw07_Text.l1 kq x3_2 l0_0 (l0_0.length : Int) x19_1 ((rd_T36 l0_0 x19_1).f1) (((rd_T36 l0_0 x19_1).f1).length : Int) x32_2 l0_0 l0_1 = some r) ∧ Aside0 (kq ≤ k1) ∧ Aside0 (w'.heap[gb139]? = some (.cells #[(.slice (some ad140) l0_0.length c0_0), (.slice A0_1 l0_1.length c0_1)] 30 (0, 0))) ∧ Aside0 (w'.heap[gb141]? = some (.cells #[.string ((rd_T36 l0_0 x19_1).f0), (.slice A140_1 ((rd_T36 l0_0 x19_1).f1).length c140_1), .int .i64 ((rd_T36 l0_0 x19_1).f2)] 36 (0, 0))) ∧ Aside0 (Below w.heap.size w w'))
         case atStart => exact ⟨(((x3_1 ++ (⟨#[109, 97, 112, 32]⟩ : ByteArray)) ++ ((rd_T36 l0_0 x19_1).f0)) ++ (⟨#[32, 123, 10]⟩ : ByteArray)), (0), (by first | rfl | (simp; done) | (simp [*]; done)), (by first | rfl | (simp; done) | (simp [*]; done)), H', ⟨Nat.le_refl _⟩, ⟨bkq BK139⟩, ⟨bkp BK141⟩, ⟨by repeat (first | (with_reducible first | exact HB.out | apply below_alloc | apply pw_below_drewN | apply below_drew1 | refine below_set ?_ GE139.out | refine below_set ?_ GE141.out) | exact HB.out)⟩⟩
         case round =>
          clear H'
          try clear c1
          try clear p1
          try clear q1
          try clear hx1
          try clear p2 p2
          try clear c4
          try clear c4b0
          try clear c5
          try clear c5b0
          try clear c6
          try clear c6b0
          try clear c7
          try clear c7b0
          try clear c7b1
          try clear c7b2
          try clear c8
          try clear c8b0
          try clear c8b1
          try clear c8b2
          try clear c9
          try clear c9b0
          try clear c9b1
          try clear c9b2
          try clear c11
          try clear hcz12_0 hcz12_1 hcz12_2 hfz12_0 hfz12_1 hfz12_2
          try clear hcz3_0 hcz3_1 hfz3_0 hfz3_1
          try clear hx140_0
          try clear hx140_1
          try clear hx140_2
          try clear p140
          try clear q140
          obtain ⟨x3_2, x32_2, rfl, rfl, HA, HK2, BK139, BK141, HB⟩ := hrel
          cases gk with
          | zero => exact absurd HA.out (by simp [maquettelaw07_Text.l1])
          | succ k2 =>
           have H := HA.out
           clear HA
           simp only [maquettelaw07_Text.l1] at H
           by_cases c13 : x32_2 < (((rd_T36 l0_0 x19_1).f1).length : Int)
           ·rw [if_pos c13] at H
            have c13b0 := decide_eq_true c13
            clear c13
            by_cases c14 : 0 ≤ x32_2
            ·rw [if_pos c14] at H
             have c14b0 := decide_eq_true c14
             clear c14
             by_cases c15 : x32_2 < (((rd_T36 l0_0 x19_1).f1).length : Int)
             ·rw [if_pos c15] at H
              have c15b0 := decide_eq_true c15
              clear c15
              replace H := Option.bind_eq_some_iff.mp H
              obtain ⟨t144, A160, H⟩ := H
              replace H : (if x3_2.size + t144.size ≤ 9223372036854775807 then (maquettelaw07_Text.l1 k2 (x3_2 ++ t144) l0_0 (l0_0.length : Int) x19_1 ((rd_T36 l0_0 x19_1).f1) (((rd_T36 l0_0 x19_1).f1).length : Int) (wrap64 (x32_2 + 1)) l0_0 l0_1) else (none)) = some r := H
              have A16 := Aside0.mk A160
              clear A160
              by_cases c17 : x3_2.size + t144.size ≤ 9223372036854775807
              ·rw [if_pos c17] at H
               have c17b0 := eq_true c17
               have c17b1 := decide_eq_true c17
               try have c17b2 := eq_false (Nat.not_lt.2 c17)
               have H' := Aside0.mk H
               clear H
               have p142 : 0 ≤ (x32_2 : Int) := of_decide_eq_true (by first | (with_reducible assumption) | assumption)
               have q142 : x32_2 < (((rd_T36 l0_0 x19_1).f1).length : Int) := of_decide_eq_true (by first | (with_reducible assumption) | assumption)
               obtain ⟨ad142, e142, hx142_0, hx142_1, hx142_2, hx142_3, hx142_4, hx142_5, hx142_6, hx142_7, hx142_8, hx142_9⟩ := at_T41 HR140_1.out x32_2 p142 q142
               cases e142
               replace hx142_0 := (HB.out.cell (World.block_lt_of_cell? w _ hx142_0)).trans hx142_0
               replace hx142_1 := (HB.out.cell (World.block_lt_of_cell? w _ hx142_1)).trans hx142_1
               replace hx142_2 := (HB.out.cell (World.block_lt_of_cell? w _ hx142_2)).trans hx142_2
               replace hx142_3 := (HB.out.cell (World.block_lt_of_cell? w _ hx142_3)).trans hx142_3
               replace hx142_4 := (HB.out.cell (World.block_lt_of_cell? w _ hx142_4)).trans hx142_4
               replace hx142_5 := (HB.out.cell (World.block_lt_of_cell? w _ hx142_5)).trans hx142_5
               replace hx142_6 := (HB.out.cell (World.block_lt_of_cell? w _ hx142_6)).trans hx142_6
               replace hx142_7 := (HB.out.cell (World.block_lt_of_cell? w _ hx142_7)).trans hx142_7
               replace hx142_8 := (HB.out.cell (World.block_lt_of_cell? w _ hx142_8)).trans hx142_8
               replace hx142_9 := (HB.out.cell (World.block_lt_of_cell? w _ hx142_9)).trans hx142_9
               replace p142 := eq_true p142
               replace q142 := eq_true q142
               go_wp2_with (first | ((with_reducible refine gate_dst (N := 7) rfl ?_); refine bx 7 (cs := #[.bool false, .int .u32 0, .int .i64 0, .int .u8 0, .int .u8 0, .bool false, .int .u8 0, .int .u8 0, .int .i64 0, .int .i64 0]) (t := 41) (h := ?_); intro gb143 hg w18 hbox hb; have BK143 := Aside0.mk hbox; have GW143 : Aside0 (w.heap.size ≤ gb143) := bge hg; have GE143 : Aside0 (w.heap.size ≤ gb143) := bge hg; have NB139_143 := bne BK139 hg; have NB143_139 := bnf BK139 hg; have NB141_143 := bne BK141 hg; have NB143_141 := bnf BK141 hg; replace BK139 := bkb BK139 hb; replace BK141 := bkb BK141 hb; replace HB := bst hb; clear hb hbox hg; have hnb19 := NB143_139.out; have hnc19 := NB139_143.out; have hnb20 := NB143_141.out; have hnc20 := NB141_143.out; obtain ⟨hcz21_0, hcz21_1, hcz21_2, hcz21_3, hcz21_4, hcz21_5, hcz21_6, hcz21_7, hcz21_8, hcz21_9, hfz21_0, hfz21_1, hfz21_2, hfz21_3, hfz21_4, hfz21_5, hfz21_6, hfz21_7, hfz21_8, hfz21_9⟩ := bc10 BK143) | ((with_reducible refine gate_dst (N := 38) rfl ?_); refine gl (some 38) Tryd.func22 #[.agg #[.bool ((rd_T41 ((rd_T36 l0_0 x19_1).f1) x32_2).f0), .int .u32 ((rd_T41 ((rd_T36 l0_0 x19_1).f1) x32_2).f1.f0), .int .i64 ((rd_T41 ((rd_T36 l0_0 x19_1).f1) x32_2).f1.f1), .int .u8 ((rd_T41 ((rd_T36 l0_0 x19_1).f1) x32_2).f2), .int .u8 ((rd_T41 ((rd_T36 l0_0 x19_1).f1) x32_2).f3), .bool ((rd_T41 ((rd_T36 l0_0 x19_1).f1) x32_2).f4), .int .u8 ((rd_T41 ((rd_T36 l0_0 x19_1).f1) x32_2).f5), .int .u8 ((rd_T41 ((rd_T36 l0_0 x19_1).f1) x32_2).f6), .int .i64 ((rd_T41 ((rd_T36 l0_0 x19_1).f1) x32_2).f7), .int .i64 ((rd_T41 ((rd_T36 l0_0 x19_1).f1) x32_2).f8)]] ?_; (with_reducible refine (maquettelaw07_line.calls k2 ((rd_T41 ((rd_T36 l0_0 x19_1).f1) x32_2).f0) ((rd_T41 ((rd_T36 l0_0 x19_1).f1) x32_2).f1.f0) ((rd_T41 ((rd_T36 l0_0 x19_1).f1) x32_2).f1.f1) ((rd_T41 ((rd_T36 l0_0 x19_1).f1) x32_2).f2) ((rd_T41 ((rd_T36 l0_0 x19_1).f1) x32_2).f3) ((rd_T41 ((rd_T36 l0_0 x19_1).f1) x32_2).f4) ((rd_T41 ((rd_T36 l0_0 x19_1).f1) x32_2).f5) ((rd_T41 ((rd_T36 l0_0 x19_1).f1) x32_2).f6) ((rd_T41 ((rd_T36 l0_0 x19_1).f1) x32_2).f7) ((rd_T41 ((rd_T36 l0_0 x19_1).f1) x32_2).f8) t144 _ A16.out (Go.Proofs.YtjcopneljfcfoaaDoor.Inv.ivb hInv)).mono ?_); rintro e w22 ⟨rfl, hb⟩; refine ⟨_, rfl, ?_⟩; replace BK139 := bkb BK139 hb; replace BK141 := bkb BK141 hb; replace BK143 := Aside0.mk (blk_below (g := gb143) (o := .cells #[.bool ((rd_T41 ((rd_T36 l0_0 x19_1).f1) x32_2).f0), .int .u32 ((rd_T41 ((rd_T36 l0_0 x19_1).f1) x32_2).f1.f0), .int .i64 ((rd_T41 ((rd_T36 l0_0 x19_1).f1) x32_2).f1.f1), .int .u8 ((rd_T41 ((rd_T36 l0_0 x19_1).f1) x32_2).f2), .int .u8 ((rd_T41 ((rd_T36 l0_0 x19_1).f1) x32_2).f3), .bool ((rd_T41 ((rd_T36 l0_0 x19_1).f1) x32_2).f4), .int .u8 ((rd_T41 ((rd_T36 l0_0 x19_1).f1) x32_2).f5), .int .u8 ((rd_T41 ((rd_T36 l0_0 x19_1).f1) x32_2).f6), .int .i64 ((rd_T41 ((rd_T36 l0_0 x19_1).f1) x32_2).f7), .int .i64 ((rd_T41 ((rd_T36 l0_0 x19_1).f1) x32_2).f8)] 41 (0, 0)) (bkp BK143) hb); replace HB := bst hb; (try clear hb); (try clear hb2); (try clear hk); (try clear hi)))
               go_roundg k2
               case measure => have := HK1.out; have := HK2.out; omega
               case rel => exact ⟨(x3_2 ++ t144), (wrap64 (x32_2 + 1)), (by first | rfl | (simp; done) | (simp [*]; done)), (by first | rfl | (simp; done) | (simp [*]; done)), H', ⟨by have := HK1.out; have := HK2.out; omega⟩, ⟨bkq BK139⟩, ⟨bkq BK141⟩, ⟨by repeat (first | (with_reducible first | exact HB.out | apply below_alloc | apply pw_below_drewN | apply below_drew1 | refine below_set ?_ GE139.out | refine below_set ?_ GE141.out | refine below_set ?_ GE143.out) | exact HB.out)⟩⟩
              ·rw [if_neg c17] at H
               exact absurd H (by simp)
             ·rw [if_neg c15] at H
              exact absurd H (by simp)
            ·rw [if_neg c14] at H
             exact absurd H (by simp)
           ·rw [if_neg c13] at H
            have c13b0 := decide_eq_false c13
            clear c13
            by_cases c23 : x3_2.size + 2 ≤ 9223372036854775807
            ·rw [if_pos c23] at H
             have c23b0 := eq_true c23
             have c23b1 := decide_eq_true c23
             try have c23b2 := eq_false (Nat.not_lt.2 c23)
             have H' := Aside0.mk H
             clear H
             go_wp2
             go_roundg k2
             case measure => have := HK1.out; have := HK2.out; omega
             case rel => exact ⟨(x3_2 ++ (⟨#[125, 10]⟩ : ByteArray)), (wrap64 (x19_1 + 1)), (by first | rfl | (simp; done) | (simp [*]; done)), (by first | rfl | (simp; done) | (simp [*]; done)), H', ⟨by have := HK1.out; have := HK2.out; omega⟩, ⟨bkq BK139⟩, ⟨by repeat (first | (with_reducible first | exact HB.out | apply below_alloc | apply pw_below_drewN | apply below_drew1 | refine below_set ?_ GE139.out | refine below_set ?_ GE141.out) | exact HB.out)⟩⟩
            ·rw [if_neg c23] at H
             exact absurd H (by simp)
        ·rw [if_neg c9] at H
         exact absurd H (by simp)
       ·rw [if_neg c8] at H
        exact absurd H (by simp)
      ·rw [if_neg c7] at H
       exact absurd H (by simp)
     ·rw [if_neg c6] at H
      exact absurd H (by simp)
    ·rw [if_neg c5] at H
     exact absurd H (by simp)
   ·rw [if_neg c4] at H
    have c4b0 := decide_eq_false c4
    clear c4
    have H' := Aside0.mk H
    clear H
    obtain ⟨hcz24_0, hcz24_1, hfz24_0, hfz24_1⟩ := bc2 BK139
    go_wp2
    go_loopg [3, 47] k1 (fun kq v3 v47 w' => ∃ (x3_2 : ByteArray) (x47_2 : Int), v3 = .string x3_2 ∧ v47 = .int .i64 x47_2 ∧ Aside0 (maquettelaw07_Text.l2 kq x3_2 l0_1 (l0_1.length : Int) x47_2 = some r) ∧ Aside0 (kq ≤ k1) ∧ Aside0 (w'.heap[gb139]? = some (.cells #[(.slice A0_0 l0_0.length c0_0), (.slice A0_1 l0_1.length c0_1)] 30 (0, 0))) ∧ Aside0 (Below w.heap.size w w'))
    case atStart => exact ⟨(x3_1), (0), (by first | rfl | (simp; done) | (simp [*]; done)), (by first | rfl | (simp; done) | (simp [*]; done)), H', ⟨Nat.le_refl _⟩, ⟨bkq BK139⟩, ⟨by repeat (first | (with_reducible first | exact HB.out | apply below_alloc | apply pw_below_drewN | apply below_drew1 | refine below_set ?_ GE139.out) | exact HB.out)⟩⟩
    case round =>
     clear H'
     try clear c1
     try clear p1 p1
     try clear q1 q1
     try clear hx1
     try clear c2
     try clear p2 p2
     try clear c4
     try clear c4b0
     try clear c5
     try clear c5b0
     try clear c6
     try clear c6b0
     try clear p6
     try clear c7
     try clear c7b0
     try clear c7b1
     try clear c7b2
     try clear c8
     try clear c8b0
     try clear c8b1
     try clear c8b2
     try clear c9
     try clear c9b0
     try clear c9b1
     try clear c9b2
     try clear c11
     try clear c13
     try clear c13b0
     try clear c14
     try clear c14b0
     try clear p14
     try clear q14
     try clear hx14
     try clear c15
     try clear c15b0
     try clear c17
     try clear c17b0
     try clear c17b1
     try clear c17b2
     try clear c19
     try clear c20
     try clear c22
     try clear c23
     try clear c23b0
     try clear c23b1
     try clear c23b2
     try clear hcz12_0 hcz12_1 hcz12_2 hfz12_0 hfz12_1 hfz12_2
     try clear hcz21_0 hcz21_1 hcz21_2 hcz21_3 hcz21_4 hcz21_5 hcz21_6 hcz21_7 hcz21_8 hcz21_9 hfz21_0 hfz21_1 hfz21_2 hfz21_3 hfz21_4 hfz21_5 hfz21_6 hfz21_7 hfz21_8 hfz21_9
     try clear hcz24_0 hcz24_1 hfz24_0 hfz24_1
     try clear hcz3_0 hcz3_1 hfz3_0 hfz3_1
     try clear hx140_0
     try clear hx140_1
     try clear hx140_2
     try clear hx142_0
     try clear hx142_1
     try clear hx142_2
     try clear hx142_3
     try clear hx142_4
     try clear hx142_5
     try clear hx142_6
     try clear hx142_7
     try clear hx142_8
     try clear hx142_9
     try clear p140
     try clear p142
     try clear q140
     try clear q142
     obtain ⟨x3_2, x47_2, rfl, rfl, HA, HK2, BK139, HB⟩ := hrel
     cases gk with
     | zero => exact absurd HA.out (by simp [maquettelaw07_Text.l2])
     | succ k2 =>
      have H := HA.out
      clear HA
      simp only [maquettelaw07_Text.l2] at H
      by_cases c25 : x47_2 < (l0_1.length : Int)
      ·rw [if_pos c25] at H
       have c25b0 := decide_eq_true c25
       clear c25
       by_cases c26 : 0 ≤ x47_2
       ·rw [if_pos c26] at H
        have c26b0 := decide_eq_true c26
        clear c26
        by_cases c27 : x47_2 < (l0_1.length : Int)
        ·rw [if_pos c27] at H
         have c27b0 := decide_eq_true c27
         clear c27
         by_cases c28 : x3_2.size + 7 ≤ 9223372036854775807
         ·rw [if_pos c28] at H
          have c28b0 := eq_true c28
          have c28b1 := decide_eq_true c28
          try have c28b2 := eq_false (Nat.not_lt.2 c28)
          by_cases c29 : (x3_2 ++ (⟨#[114, 111, 117, 116, 101, 114, 32]⟩ : ByteArray)).size + ((rd_T46 l0_1 x47_2).f0).size ≤ 9223372036854775807
          ·rw [if_pos c29] at H
           have c29b0 := eq_true c29
           have c29b1 := decide_eq_true c29
           try have c29b2 := eq_false (Nat.not_lt.2 c29)
           try have c29b3 : (9223372036854775807 < x3_2.size + 7 + ((rd_T46 l0_1 x47_2).f0).size) = False := by (have h_ := c29; simp only [ByteArray.size_append] at h_; exact eq_false (Nat.not_lt.2 h_))
           by_cases c30 : ((x3_2 ++ (⟨#[114, 111, 117, 116, 101, 114, 32]⟩ : ByteArray)) ++ ((rd_T46 l0_1 x47_2).f0)).size + 3 ≤ 9223372036854775807
           ·rw [if_pos c30] at H
            have c30b0 := eq_true c30
            have c30b1 := decide_eq_true c30
            try have c30b2 := eq_false (Nat.not_lt.2 c30)
            try have c30b3 : (9223372036854775807 < x3_2.size + 7 + ((rd_T46 l0_1 x47_2).f0).size + 3) = False := by (have h_ := c30; simp only [ByteArray.size_append] at h_; exact eq_false (Nat.not_lt.2 h_))
            have H' := Aside0.mk H
            clear H
            have p145 : 0 ≤ (x47_2 : Int) := of_decide_eq_true (by first | (with_reducible assumption) | assumption)
            have q145 : x47_2 < (l0_1.length : Int) := of_decide_eq_true (by first | (with_reducible assumption) | assumption)
            obtain ⟨ad145, A145_1, c145_1, A145_2, c145_2, A145_3, c145_3, e145, hx145_0, hx145_1, hx145_2, hx145_3, hx145_4, hl145_1, hi145_1, hl145_2, hi145_2, hl145_3, hi145_3⟩ := at_T46 HR0_1.out x47_2 p145 q145
            cases e145
            replace hx145_0 := (HB.out.cell (World.block_lt_of_cell? w _ hx145_0)).trans hx145_0
            replace hx145_1 := (HB.out.cell (World.block_lt_of_cell? w _ hx145_1)).trans hx145_1
            replace hx145_2 := (HB.out.cell (World.block_lt_of_cell? w _ hx145_2)).trans hx145_2
            replace hx145_3 := (HB.out.cell (World.block_lt_of_cell? w _ hx145_3)).trans hx145_3
            replace hx145_4 := (HB.out.cell (World.block_lt_of_cell? w _ hx145_4)).trans hx145_4
            have HR145_1 := Aside0.mk hi145_1
            have HC145_1 := Aside0.mk hl145_1
            clear hi145_1 hl145_1
            have HR145_2 := Aside0.mk hi145_2
            have HC145_2 := Aside0.mk hl145_2
            clear hi145_2 hl145_2
            have HR145_3 := Aside0.mk hi145_3
            have HC145_3 := Aside0.mk hl145_3
            clear hi145_3 hl145_3
            replace p145 := eq_true p145
            replace q145 := eq_true q145
            go_wp2_with (first | ((with_reducible refine gate_dst (N := 9) rfl ?_); refine bx 9 (cs := #[.string (⟨#[]⟩ : ByteArray), .slice none 0 0, .slice none 0 0, .slice none 0 0, .int .i64 0]) (t := 46) (h := ?_); intro gb146 hg w31 hbox hb; have BK146 := Aside0.mk hbox; have GW146 : Aside0 (w.heap.size ≤ gb146) := bge hg; have GE146 : Aside0 (w.heap.size ≤ gb146) := bge hg; have NB139_146 := bne BK139 hg; have NB146_139 := bnf BK139 hg; replace BK139 := bkb BK139 hb; replace HB := bst hb; clear hb hbox hg; have hnb32 := NB146_139.out; have hnc32 := NB139_146.out; obtain ⟨hcz33_0, hcz33_1, hcz33_2, hcz33_3, hcz33_4, hfz33_0, hfz33_1, hfz33_2, hfz33_3, hfz33_4⟩ := bc5 BK146))
            go_loopg [3, 60] k2 (fun kq v3 v60 w' => ∃ (x3_3 : ByteArray) (x60_3 : Int), v3 = .string x3_3 ∧ v60 = .int .i64 x60_3 ∧ Aside0 (maquettelaw07_Text.l3 kq x3_3 l0_1 (l0_1.length : Int) x47_2 ((rd_T46 l0_1 x47_2).f1) (((rd_T46 l0_1 x47_2).f1).length : Int) x60_3 ((rd_T46 l0_1 x47_2).f0) ((rd_T46 l0_1 x47_2).f1) ((rd_T46 l0_1 x47_2).f2) ((rd_T46 l0_1 x47_2).f3) ((rd_T46 l0_1 x47_2).f4) = some r) ∧ Aside0 (kq ≤ k2) ∧ Aside0 (w'.heap[gb139]? = some (.cells #[(.slice A0_0 l0_0.length c0_0), (.slice (some ad145) l0_1.length c0_1)] 30 (0, 0))) ∧ Aside0 (w'.heap[gb146]? = some (.cells #[.string ((rd_T46 l0_1 x47_2).f0), (.slice A145_1 ((rd_T46 l0_1 x47_2).f1).length c145_1), (.slice A145_2 ((rd_T46 l0_1 x47_2).f2).length c145_2), (.slice A145_3 ((rd_T46 l0_1 x47_2).f3).length c145_3), .int .i64 ((rd_T46 l0_1 x47_2).f4)] 46 (0, 0))) ∧ Aside0 (Below w.heap.size w w'))
            case atStart => exact ⟨(((x3_2 ++ (⟨#[114, 111, 117, 116, 101, 114, 32]⟩ : ByteArray)) ++ ((rd_T46 l0_1 x47_2).f0)) ++ (⟨#[32, 123, 10]⟩ : ByteArray)), (0), (by first | rfl | (simp; done) | (simp [*]; done)), (by first | rfl | (simp; done) | (simp [*]; done)), H', ⟨Nat.le_refl _⟩, ⟨bkq BK139⟩, ⟨bkp BK146⟩, ⟨by repeat (first | (with_reducible first | exact HB.out | apply below_alloc | apply pw_below_drewN | apply below_drew1 | refine below_set ?_ GE139.out | refine below_set ?_ GE146.out) | exact HB.out)⟩⟩
            case round =>
             clear H'
             try clear c1
             try clear p1 p1
             try clear q1 q1
             try clear hx1
             try clear c2
             try clear p2 p2
             try clear c3
             try clear c4
             try clear c4b0
             try clear c5
             try clear c5b0
             try clear c6
             try clear c6b0
             try clear p6 p6
             try clear c7
             try clear c7b0
             try clear c7b1
             try clear c7b2
             try clear c8
             try clear c8b0
             try clear c8b1
             try clear c8b2
             try clear c9
             try clear c9b0
             try clear c9b1
             try clear c9b2
             try clear c11
             try clear c13
             try clear c13b0
             try clear c14
             try clear c14b0
             try clear p14 p14
             try clear q14 q14
             try clear hx14
             try clear c15
             try clear c15b0
             try clear c17
             try clear c17b0
             try clear c17b1
             try clear c17b2
             try clear c19
             try clear c20
             try clear c22
             try clear c23
             try clear c23b0
             try clear c23b1
             try clear c23b2
             try clear c25
             try clear c25b0
             try clear c26
             try clear c26b0
             try clear c27
             try clear c27b0
             try clear c28
             try clear c28b0
             try clear c28b1
             try clear c28b2
             try clear c29
             try clear c29b0
             try clear c29b1
             try clear c29b2
             try clear c30
             try clear c30b0
             try clear c30b1
             try clear c30b2
             try clear c32
             try clear hcz12_0 hcz12_1 hcz12_2 hfz12_0 hfz12_1 hfz12_2
             try clear hcz21_0 hcz21_1 hcz21_2 hcz21_3 hcz21_4 hcz21_5 hcz21_6 hcz21_7 hcz21_8 hcz21_9 hfz21_0 hfz21_1 hfz21_2 hfz21_3 hfz21_4 hfz21_5 hfz21_6 hfz21_7 hfz21_8 hfz21_9
             try clear hcz24_0 hcz24_1 hfz24_0 hfz24_1
             try clear hcz33_0 hcz33_1 hcz33_2 hcz33_3 hcz33_4 hfz33_0 hfz33_1 hfz33_2 hfz33_3 hfz33_4
             try clear hcz3_0 hcz3_1 hfz3_0 hfz3_1
             try clear hx140_0
             try clear hx140_1
             try clear hx140_2
             try clear hx142_0
             try clear hx142_1
             try clear hx142_2
             try clear hx142_3
             try clear hx142_4
             try clear hx142_5
             try clear hx142_6
             try clear hx142_7
             try clear hx142_8
             try clear hx142_9
             try clear hx145_0
             try clear hx145_1
             try clear hx145_2
             try clear hx145_3
             try clear hx145_4
             try clear p140
             try clear p142
             try clear p145
             try clear q140
             try clear q142
             try clear q145
             obtain ⟨x3_3, x60_3, rfl, rfl, HA, HK3, BK139, BK146, HB⟩ := hrel
             cases gk with
             | zero => exact absurd HA.out (by simp [maquettelaw07_Text.l3])
             | succ k3 =>
              have H := HA.out
              clear HA
              simp only [maquettelaw07_Text.l3] at H
              by_cases c34 : x60_3 < (((rd_T46 l0_1 x47_2).f1).length : Int)
              ·rw [if_pos c34] at H
               have c34b0 := decide_eq_true c34
               clear c34
               by_cases c35 : 0 ≤ x60_3
               ·rw [if_pos c35] at H
                have c35b0 := decide_eq_true c35
                clear c35
                by_cases c36 : x60_3 < (((rd_T46 l0_1 x47_2).f1).length : Int)
                ·rw [if_pos c36] at H
                 have c36b0 := decide_eq_true c36
                 clear c36
                 by_cases c37 : x3_3.size + 5 ≤ 9223372036854775807
                 ·rw [if_pos c37] at H
                  have c37b0 := eq_true c37
                  have c37b1 := decide_eq_true c37
                  try have c37b2 := eq_false (Nat.not_lt.2 c37)
                  replace H := Option.bind_eq_some_iff.mp H
                  obtain ⟨t149, A380, H⟩ := H
                  replace H : (if (x3_3 ++ (⟨#[9, 110, 101, 116, 32]⟩ : ByteArray)).size + t149.size ≤ 9223372036854775807 then (if ((x3_3 ++ (⟨#[9, 110, 101, 116, 32]⟩ : ByteArray)) ++ t149).size + 2 ≤ 9223372036854775807 then (maquettelaw07_Text.l3 k3 (((x3_3 ++ (⟨#[9, 110, 101, 116, 32]⟩ : ByteArray)) ++ t149) ++ (⟨#[59, 10]⟩ : ByteArray)) l0_1 (l0_1.length : Int) x47_2 ((rd_T46 l0_1 x47_2).f1) (((rd_T46 l0_1 x47_2).f1).length : Int) (wrap64 (x60_3 + 1)) ((rd_T46 l0_1 x47_2).f0) ((rd_T46 l0_1 x47_2).f1) ((rd_T46 l0_1 x47_2).f2) ((rd_T46 l0_1 x47_2).f3) ((rd_T46 l0_1 x47_2).f4)) else (none)) else (none)) = some r := H
                  have A38 := Aside0.mk A380
                  clear A380
                  by_cases c39 : (x3_3 ++ (⟨#[9, 110, 101, 116, 32]⟩ : ByteArray)).size + t149.size ≤ 9223372036854775807
                  ·rw [if_pos c39] at H
                   have c39b0 := eq_true c39
                   have c39b1 := decide_eq_true c39
                   try have c39b2 := eq_false (Nat.not_lt.2 c39)
                   try have c39b3 : (9223372036854775807 < x3_3.size + 5 + t149.size) = False := by (have h_ := c39; simp only [ByteArray.size_append] at h_; exact eq_false (Nat.not_lt.2 h_))
                   by_cases c40 : ((x3_3 ++ (⟨#[9, 110, 101, 116, 32]⟩ : ByteArray)) ++ t149).size + 2 ≤ 9223372036854775807
                   ·rw [if_pos c40] at H
                    have c40b0 := eq_true c40
                    have c40b1 := decide_eq_true c40
                    try have c40b2 := eq_false (Nat.not_lt.2 c40)
                    try have c40b3 : (9223372036854775807 < x3_3.size + 5 + t149.size + 2) = False := by (have h_ := c40; simp only [ByteArray.size_append] at h_; exact eq_false (Nat.not_lt.2 h_))
                    have H' := Aside0.mk H
                    clear H
                    have p147 : 0 ≤ (x60_3 : Int) := of_decide_eq_true (by first | (with_reducible assumption) | assumption)
                    have q147 : x60_3 < (((rd_T46 l0_1 x47_2).f1).length : Int) := of_decide_eq_true (by first | (with_reducible assumption) | assumption)
                    obtain ⟨ad147, e147, hx147_0, hx147_1⟩ := at_T39 HR145_1.out x60_3 p147 q147
                    cases e147
                    replace hx147_0 := (HB.out.cell (World.block_lt_of_cell? w _ hx147_0)).trans hx147_0
                    replace hx147_1 := (HB.out.cell (World.block_lt_of_cell? w _ hx147_1)).trans hx147_1
                    replace p147 := eq_true p147
                    replace q147 := eq_true q147
                    go_wp2_with (first | ((with_reducible refine gate_dst (N := 11) rfl ?_); refine bx 11 (cs := #[.int .u32 0, .int .i64 0]) (t := 39) (h := ?_); intro gb148 hg w41 hbox hb; have BK148 := Aside0.mk hbox; have GW148 : Aside0 (w.heap.size ≤ gb148) := bge hg; have GE148 : Aside0 (w.heap.size ≤ gb148) := bge hg; have NB139_148 := bne BK139 hg; have NB148_139 := bnf BK139 hg; have NB146_148 := bne BK146 hg; have NB148_146 := bnf BK146 hg; replace BK139 := bkb BK139 hb; replace BK146 := bkb BK146 hb; replace HB := bst hb; clear hb hbox hg; have hnb42 := NB148_139.out; have hnc42 := NB139_148.out; have hnb43 := NB148_146.out; have hnc43 := NB146_148.out; obtain ⟨hcz44_0, hcz44_1, hfz44_0, hfz44_1⟩ := bc2 BK148) | ((with_reducible refine gate_dst (N := 67) rfl ?_); refine gl (some 67) Tryd.func23 #[.agg #[.int .u32 ((rd_T39 ((rd_T46 l0_1 x47_2).f1) x60_3).f0), .int .i64 ((rd_T39 ((rd_T46 l0_1 x47_2).f1) x60_3).f1)]] ?_; (with_reducible refine (prefix_Text.calls k3 ((rd_T39 ((rd_T46 l0_1 x47_2).f1) x60_3).f0) ((rd_T39 ((rd_T46 l0_1 x47_2).f1) x60_3).f1) t149 _ A38.out (Go.Proofs.YtjcopneljfcfoaaDoor.Inv.ivb hInv)).mono ?_); rintro e w45 ⟨rfl, hb⟩; refine ⟨_, rfl, ?_⟩; replace BK139 := bkb BK139 hb; replace BK146 := bkb BK146 hb; replace BK148 := Aside0.mk (blk_below (g := gb148) (o := .cells #[.int .u32 ((rd_T39 ((rd_T46 l0_1 x47_2).f1) x60_3).f0), .int .i64 ((rd_T39 ((rd_T46 l0_1 x47_2).f1) x60_3).f1)] 39 (0, 0)) (bkp BK148) hb); replace HB := bst hb; (try clear hb); (try clear hb2); (try clear hk); (try clear hi)))
                    go_roundg k3
                    case measure => have := HK1.out; have := HK2.out; have := HK3.out; omega
                    case rel => exact ⟨(((x3_3 ++ (⟨#[9, 110, 101, 116, 32]⟩ : ByteArray)) ++ t149) ++ (⟨#[59, 10]⟩ : ByteArray)), (wrap64 (x60_3 + 1)), (by first | rfl | (simp; done) | (simp [*]; done)), (by first | rfl | (simp; done) | (simp [*]; done)), H', ⟨by have := HK1.out; have := HK2.out; have := HK3.out; omega⟩, ⟨bkq BK139⟩, ⟨bkq BK146⟩, ⟨by repeat (first | (with_reducible first | exact HB.out | apply below_alloc | apply pw_below_drewN | apply below_drew1 | refine below_set ?_ GE139.out | refine below_set ?_ GE146.out | refine below_set ?_ GE148.out) | exact HB.out)⟩⟩
                   ·rw [if_neg c40] at H
                    exact absurd H (by simp)
                  ·rw [if_neg c39] at H
                   exact absurd H (by simp)
                 ·rw [if_neg c37] at H
                  exact absurd H (by simp)
                ·rw [if_neg c36] at H
                 exact absurd H (by simp)
               ·rw [if_neg c35] at H
                exact absurd H (by simp)
              ·rw [if_neg c34] at H
               have c34b0 := decide_eq_false c34
               clear c34
               have H' := Aside0.mk H
               clear H
               have hnb46 := NB146_139.out
               have hnc46 := NB139_146.out
               obtain ⟨hcz47_0, hcz47_1, hcz47_2, hcz47_3, hcz47_4, hfz47_0, hfz47_1, hfz47_2, hfz47_3, hfz47_4⟩ := bc5 BK146
               go_wp2
               go_loopg [3, 74] k3 (fun kq v3 v74 w' => ∃ (x3_4 : ByteArray) (x74_4 : Int), v3 = .string x3_4 ∧ v74 = .int .i64 x74_4 ∧ Aside0 (maquettelaw07_Text.l4 kq x3_4 l0_1 (l0_1.length : Int) x47_2 ((rd_T46 l0_1 x47_2).f2) (((rd_T46 l0_1 x47_2).f2).length : Int) x74_4 ((rd_T46 l0_1 x47_2).f0) ((rd_T46 l0_1 x47_2).f1) ((rd_T46 l0_1 x47_2).f2) ((rd_T46 l0_1 x47_2).f3) ((rd_T46 l0_1 x47_2).f4) = some r) ∧ Aside0 (kq ≤ k3) ∧ Aside0 (w'.heap[gb139]? = some (.cells #[(.slice A0_0 l0_0.length c0_0), (.slice (some ad145) l0_1.length c0_1)] 30 (0, 0))) ∧ Aside0 (w'.heap[gb146]? = some (.cells #[.string ((rd_T46 l0_1 x47_2).f0), (.slice A145_1 ((rd_T46 l0_1 x47_2).f1).length c145_1), (.slice A145_2 ((rd_T46 l0_1 x47_2).f2).length c145_2), (.slice A145_3 ((rd_T46 l0_1 x47_2).f3).length c145_3), .int .i64 ((rd_T46 l0_1 x47_2).f4)] 46 (0, 0))) ∧ Aside0 (Below w.heap.size w w'))
               case atStart => exact ⟨(x3_3), (0), (by first | rfl | (simp; done) | (simp [*]; done)), (by first | rfl | (simp; done) | (simp [*]; done)), H', ⟨Nat.le_refl _⟩, ⟨bkq BK139⟩, ⟨bkq BK146⟩, ⟨by repeat (first | (with_reducible first | exact HB.out | apply below_alloc | apply pw_below_drewN | apply below_drew1 | refine below_set ?_ GE139.out | refine below_set ?_ GE146.out) | exact HB.out)⟩⟩
               case round =>
                clear H'
                try clear c1
                try clear p1 p1
                try clear q1 q1
                try clear hx1
                try clear c2
                try clear p2 p2
                try clear c3
                try clear c4
                try clear c4b0
                try clear c5
                try clear c5b0
                try clear c6
                try clear c6b0
                try clear p6 p6
                try clear c7
                try clear c7b0
                try clear c7b1
                try clear c7b2
                try clear c8
                try clear c8b0
                try clear c8b1
                try clear c8b2
                try clear c9
                try clear c9b0
                try clear c9b1
                try clear c9b2
                try clear c11
                try clear c13
                try clear c13b0
                try clear c14
                try clear c14b0
                try clear p14 p14
                try clear q14 q14
                try clear hx14
                try clear c15
                try clear c15b0
                try clear c17
                try clear c17b0
                try clear c17b1
                try clear c17b2
                try clear c19
                try clear c20
                try clear c22
                try clear c23
                try clear c23b0
                try clear c23b1
                try clear c23b2
                try clear c25
                try clear c25b0
                try clear c26
                try clear c26b0
                try clear c27
                try clear c27b0
                try clear c28
                try clear c28b0
                try clear c28b1
                try clear c28b2
                try clear c29
                try clear c29b0
                try clear c29b1
                try clear c29b2
                try clear c30
                try clear c30b0
                try clear c30b1
                try clear c30b2
                try clear c32
                try clear c34
                try clear c34b0
                try clear c35
                try clear c35b0
                try clear c36
                try clear c36b0
                try clear c37
                try clear c37b0
                try clear c37b1
                try clear c37b2
                try clear c39
                try clear c39b0
                try clear c39b1
                try clear c39b2
                try clear c40
                try clear c40b0
                try clear c40b1
                try clear c40b2
                try clear c42
                try clear c43
                try clear c46
                try clear hcz12_0 hcz12_1 hcz12_2 hfz12_0 hfz12_1 hfz12_2
                try clear hcz21_0 hcz21_1 hcz21_2 hcz21_3 hcz21_4 hcz21_5 hcz21_6 hcz21_7 hcz21_8 hcz21_9 hfz21_0 hfz21_1 hfz21_2 hfz21_3 hfz21_4 hfz21_5 hfz21_6 hfz21_7 hfz21_8 hfz21_9
                try clear hcz24_0 hcz24_1 hfz24_0 hfz24_1
                try clear hcz33_0 hcz33_1 hcz33_2 hcz33_3 hcz33_4 hfz33_0 hfz33_1 hfz33_2 hfz33_3 hfz33_4
                try clear hcz3_0 hcz3_1 hfz3_0 hfz3_1
                try clear hcz44_0 hcz44_1 hfz44_0 hfz44_1
                try clear hcz47_0 hcz47_1 hcz47_2 hcz47_3 hcz47_4 hfz47_0 hfz47_1 hfz47_2 hfz47_3 hfz47_4
                try clear hx140_0
                try clear hx140_1
                try clear hx140_2
                try clear hx142_0
                try clear hx142_1
                try clear hx142_2
                try clear hx142_3
                try clear hx142_4
                try clear hx142_5
                try clear hx142_6
                try clear hx142_7
                try clear hx142_8
                try clear hx142_9
                try clear hx145_0
                try clear hx145_1
                try clear hx145_2
                try clear hx145_3
                try clear hx145_4
                try clear hx147_0
                try clear hx147_1
                try clear p140
                try clear p142
                try clear p145
                try clear p147
                try clear q140
                try clear q142
                try clear q145
                try clear q147
                obtain ⟨x3_4, x74_4, rfl, rfl, HA, HK4, BK139, BK146, HB⟩ := hrel
                cases gk with
                | zero => exact absurd HA.out (by simp [maquettelaw07_Text.l4])
                | succ k4 =>
                 have H := HA.out
                 clear HA
                 simp only [maquettelaw07_Text.l4] at H
                 by_cases c48 : x74_4 < (((rd_T46 l0_1 x47_2).f2).length : Int)
                 ·rw [if_pos c48] at H
                  have c48b0 := decide_eq_true c48
                  clear c48
                  by_cases c49 : 0 ≤ x74_4
                  ·rw [if_pos c49] at H
                   have c49b0 := decide_eq_true c49
                   clear c49
                   by_cases c50 : x74_4 < (((rd_T46 l0_1 x47_2).f2).length : Int)
                   ·rw [if_pos c50] at H
                    have c50b0 := decide_eq_true c50
                    clear c50
                    by_cases c51 : x3_4.size + 6 ≤ 9223372036854775807
                    ·rw [if_pos c51] at H
                     have c51b0 := eq_true c51
                     have c51b1 := decide_eq_true c51
                     try have c51b2 := eq_false (Nat.not_lt.2 c51)
                     by_cases c52 : (x3_4 ++ (⟨#[9, 108, 105, 110, 107, 32]⟩ : ByteArray)).size + ((rd_T48 ((rd_T46 l0_1 x47_2).f2) x74_4).f0).size ≤ 9223372036854775807
                     ·rw [if_pos c52] at H
                      have c52b0 := eq_true c52
                      have c52b1 := decide_eq_true c52
                      try have c52b2 := eq_false (Nat.not_lt.2 c52)
                      try have c52b3 : (9223372036854775807 < x3_4.size + 6 + ((rd_T48 ((rd_T46 l0_1 x47_2).f2) x74_4).f0).size) = False := by (have h_ := c52; simp only [ByteArray.size_append] at h_; exact eq_false (Nat.not_lt.2 h_))
                      by_cases c53 : ((x3_4 ++ (⟨#[9, 108, 105, 110, 107, 32]⟩ : ByteArray)) ++ ((rd_T48 ((rd_T46 l0_1 x47_2).f2) x74_4).f0)).size + 6 ≤ 9223372036854775807
                      ·rw [if_pos c53] at H
                       have c53b0 := eq_true c53
                       have c53b1 := decide_eq_true c53
                       try have c53b2 := eq_false (Nat.not_lt.2 c53)
                       try have c53b3 : (9223372036854775807 < x3_4.size + 6 + ((rd_T48 ((rd_T46 l0_1 x47_2).f2) x74_4).f0).size + 6) = False := by (have h_ := c53; simp only [ByteArray.size_append] at h_; exact eq_false (Nat.not_lt.2 h_))
                       replace H := Option.bind_eq_some_iff.mp H
                       obtain ⟨t152, A540, H⟩ := H
                       replace H : (if (((x3_4 ++ (⟨#[9, 108, 105, 110, 107, 32]⟩ : ByteArray)) ++ ((rd_T48 ((rd_T46 l0_1 x47_2).f2) x74_4).f0)) ++ (⟨#[32, 99, 111, 115, 116, 32]⟩ : ByteArray)).size + t152.size ≤ 9223372036854775807 then (if ((rd_T48 ((rd_T46 l0_1 x47_2).f2) x74_4).f2).toList = ([] : List UInt8) then (if ((rd_T48 ((rd_T46 l0_1 x47_2).f2) x74_4).f3).toList = ([] : List UInt8) then (if ((((x3_4 ++ (⟨#[9, 108, 105, 110, 107, 32]⟩ : ByteArray)) ++ ((rd_T48 ((rd_T46 l0_1 x47_2).f2) x74_4).f0)) ++ (⟨#[32, 99, 111, 115, 116, 32]⟩ : ByteArray)) ++ t152).size + 2 ≤ 9223372036854775807 then (maquettelaw07_Text.l4 k4 (((((x3_4 ++ (⟨#[9, 108, 105, 110, 107, 32]⟩ : ByteArray)) ++ ((rd_T48 ((rd_T46 l0_1 x47_2).f2) x74_4).f0)) ++ (⟨#[32, 99, 111, 115, 116, 32]⟩ : ByteArray)) ++ t152) ++ (⟨#[59, 10]⟩ : ByteArray)) l0_1 (l0_1.length : Int) x47_2 ((rd_T46 l0_1 x47_2).f2) (((rd_T46 l0_1 x47_2).f2).length : Int) (wrap64 (x74_4 + 1)) ((rd_T46 l0_1 x47_2).f0) ((rd_T46 l0_1 x47_2).f1) ((rd_T46 l0_1 x47_2).f2) ((rd_T46 l0_1 x47_2).f3) ((rd_T46 l0_1 x47_2).f4)) else (none)) else (if ((((x3_4 ++ (⟨#[9, 108, 105, 110, 107, 32]⟩ : ByteArray)) ++ ((rd_T48 ((rd_T46 l0_1 x47_2).f2) x74_4).f0)) ++ (⟨#[32, 99, 111, 115, 116, 32]⟩ : ByteArray)) ++ t152).size + 8 ≤ 9223372036854775807 then (if (((((x3_4 ++ (⟨#[9, 108, 105, 110, 107, 32]⟩ : ByteArray)) ++ ((rd_T48 ((rd_T46 l0_1 x47_2).f2) x74_4).f0)) ++ (⟨#[32, 99, 111, 115, 116, 32]⟩ : ByteArray)) ++ t152) ++ (⟨#[32, 101, 120, 112, 111, 114, 116, 32]⟩ : ByteArray)).size + ((rd_T48 ((rd_T46 l0_1 x47_2).f2) x74_4).f3).size ≤ 9223372036854775807 then (if ((((((x3_4 ++ (⟨#[9, 108, 105, 110, 107, 32]⟩ : ByteArray)) ++ ((rd_T48 ((rd_T46 l0_1 x47_2).f2) x74_4).f0)) ++ (⟨#[32, 99, 111, 115, 116, 32]⟩ : ByteArray)) ++ t152) ++ (⟨#[32, 101, 120, 112, 111, 114, 116, 32]⟩ : ByteArray)) ++ ((rd_T48 ((rd_T46 l0_1 x47_2).f2) x74_4).f3)).size + 2 ≤ 9223372036854775807 then (maquettelaw07_Text.l4 k4 (((((((x3_4 ++ (⟨#[9, 108, 105, 110, 107, 32]⟩ : ByteArray)) ++ ((rd_T48 ((rd_T46 l0_1 x47_2).f2) x74_4).f0)) ++ (⟨#[32, 99, 111, 115, 116, 32]⟩ : ByteArray)) ++ t152) ++ (⟨#[32, 101, 120, 112, 111, 114, 116, 32]⟩ : ByteArray)) ++ ((rd_T48 ((rd_T46 l0_1 x47_2).f2) x74_4).f3)) ++ (⟨#[59, 10]⟩ : ByteArray)) l0_1 (l0_1.length : Int) x47_2 ((rd_T46 l0_1 x47_2).f2) (((rd_T46 l0_1 x47_2).f2).length : Int) (wrap64 (x74_4 + 1)) ((rd_T46 l0_1 x47_2).f0) ((rd_T46 l0_1 x47_2).f1) ((rd_T46 l0_1 x47_2).f2) ((rd_T46 l0_1 x47_2).f3) ((rd_T46 l0_1 x47_2).f4)) else (none)) else (none)) else (none))) else (if ((((x3_4 ++ (⟨#[9, 108, 105, 110, 107, 32]⟩ : ByteArray)) ++ ((rd_T48 ((rd_T46 l0_1 x47_2).f2) x74_4).f0)) ++ (⟨#[32, 99, 111, 115, 116, 32]⟩ : ByteArray)) ++ t152).size + 8 ≤ 9223372036854775807 then (if (((((x3_4 ++ (⟨#[9, 108, 105, 110, 107, 32]⟩ : ByteArray)) ++ ((rd_T48 ((rd_T46 l0_1 x47_2).f2) x74_4).f0)) ++ (⟨#[32, 99, 111, 115, 116, 32]⟩ : ByteArray)) ++ t152) ++ (⟨#[32, 105, 109, 112, 111, 114, 116, 32]⟩ : ByteArray)).size + ((rd_T48 ((rd_T46 l0_1 x47_2).f2) x74_4).f2).size ≤ 9223372036854775807 then (if ((rd_T48 ((rd_T46 l0_1 x47_2).f2) x74_4).f3).toList = ([] : List UInt8) then (if ((((((x3_4 ++ (⟨#[9, 108, 105, 110, 107, 32]⟩ : ByteArray)) ++ ((rd_T48 ((rd_T46 l0_1 x47_2).f2) x74_4).f0)) ++ (⟨#[32, 99, 111, 115, 116, 32]⟩ : ByteArray)) ++ t152) ++ (⟨#[32, 105, 109, 112, 111, 114, 116, 32]⟩ : ByteArray)) ++ ((rd_T48 ((rd_T46 l0_1 x47_2).f2) x74_4).f2)).size + 2 ≤ 9223372036854775807 then (maquettelaw07_Text.l4 k4 (((((((x3_4 ++ (⟨#[9, 108, 105, 110, 107, 32]⟩ : ByteArray)) ++ ((rd_T48 ((rd_T46 l0_1 x47_2).f2) x74_4).f0)) ++ (⟨#[32, 99, 111, 115, 116, 32]⟩ : ByteArray)) ++ t152) ++ (⟨#[32, 105, 109, 112, 111, 114, 116, 32]⟩ : ByteArray)) ++ ((rd_T48 ((rd_T46 l0_1 x47_2).f2) x74_4).f2)) ++ (⟨#[59, 10]⟩ : ByteArray)) l0_1 (l0_1.length : Int) x47_2 ((rd_T46 l0_1 x47_2).f2) (((rd_T46 l0_1 x47_2).f2).length : Int) (wrap64 (x74_4 + 1)) ((rd_T46 l0_1 x47_2).f0) ((rd_T46 l0_1 x47_2).f1) ((rd_T46 l0_1 x47_2).f2) ((rd_T46 l0_1 x47_2).f3) ((rd_T46 l0_1 x47_2).f4)) else (none)) else (if ((((((x3_4 ++ (⟨#[9, 108, 105, 110, 107, 32]⟩ : ByteArray)) ++ ((rd_T48 ((rd_T46 l0_1 x47_2).f2) x74_4).f0)) ++ (⟨#[32, 99, 111, 115, 116, 32]⟩ : ByteArray)) ++ t152) ++ (⟨#[32, 105, 109, 112, 111, 114, 116, 32]⟩ : ByteArray)) ++ ((rd_T48 ((rd_T46 l0_1 x47_2).f2) x74_4).f2)).size + 8 ≤ 9223372036854775807 then (if (((((((x3_4 ++ (⟨#[9, 108, 105, 110, 107, 32]⟩ : ByteArray)) ++ ((rd_T48 ((rd_T46 l0_1 x47_2).f2) x74_4).f0)) ++ (⟨#[32, 99, 111, 115, 116, 32]⟩ : ByteArray)) ++ t152) ++ (⟨#[32, 105, 109, 112, 111, 114, 116, 32]⟩ : ByteArray)) ++ ((rd_T48 ((rd_T46 l0_1 x47_2).f2) x74_4).f2)) ++ (⟨#[32, 101, 120, 112, 111, 114, 116, 32]⟩ : ByteArray)).size + ((rd_T48 ((rd_T46 l0_1 x47_2).f2) x74_4).f3).size ≤ 9223372036854775807 then (if ((((((((x3_4 ++ (⟨#[9, 108, 105, 110, 107, 32]⟩ : ByteArray)) ++ ((rd_T48 ((rd_T46 l0_1 x47_2).f2) x74_4).f0)) ++ (⟨#[32, 99, 111, 115, 116, 32]⟩ : ByteArray)) ++ t152) ++ (⟨#[32, 105, 109, 112, 111, 114, 116, 32]⟩ : ByteArray)) ++ ((rd_T48 ((rd_T46 l0_1 x47_2).f2) x74_4).f2)) ++ (⟨#[32, 101, 120, 112, 111, 114, 116, 32]⟩ : ByteArray)) ++ ((rd_T48 ((rd_T46 l0_1 x47_2).f2) x74_4).f3)).size + 2 ≤ 9223372036854775807 then (maquettelaw07_Text.l4 k4 (((((((((x3_4 ++ (⟨#[9, 108, 105, 110, 107, 32]⟩ : ByteArray)) ++ ((rd_T48 ((rd_T46 l0_1 x47_2).f2) x74_4).f0)) ++ (⟨#[32, 99, 111, 115, 116, 32]⟩ : ByteArray)) ++ t152) ++ (⟨#[32, 105, 109, 112, 111, 114, 116, 32]⟩ : ByteArray)) ++ ((rd_T48 ((rd_T46 l0_1 x47_2).f2) x74_4).f2)) ++ (⟨#[32, 101, 120, 112, 111, 114, 116, 32]⟩ : ByteArray)) ++ ((rd_T48 ((rd_T46 l0_1 x47_2).f2) x74_4).f3)) ++ (⟨#[59, 10]⟩ : ByteArray)) l0_1 (l0_1.length : Int) x47_2 ((rd_T46 l0_1 x47_2).f2) (((rd_T46 l0_1 x47_2).f2).length : Int) (wrap64 (x74_4 + 1)) ((rd_T46 l0_1 x47_2).f0) ((rd_T46 l0_1 x47_2).f1) ((rd_T46 l0_1 x47_2).f2) ((rd_T46 l0_1 x47_2).f3) ((rd_T46 l0_1 x47_2).f4)) else (none)) else (none)) else (none))) else (none)) else (none))) else (none)) = some r := H
                       have A54 := Aside0.mk A540
                       clear A540
                       by_cases c55 : (((x3_4 ++ (⟨#[9, 108, 105, 110, 107, 32]⟩ : ByteArray)) ++ ((rd_T48 ((rd_T46 l0_1 x47_2).f2) x74_4).f0)) ++ (⟨#[32, 99, 111, 115, 116, 32]⟩ : ByteArray)).size + t152.size ≤ 9223372036854775807
                       ·rw [if_pos c55] at H
                        have c55b0 := eq_true c55
                        have c55b1 := decide_eq_true c55
                        try have c55b2 := eq_false (Nat.not_lt.2 c55)
                        try have c55b3 : (9223372036854775807 < x3_4.size + 6 + ((rd_T48 ((rd_T46 l0_1 x47_2).f2) x74_4).f0).size + 6 + t152.size) = False := by (have h_ := c55; simp only [ByteArray.size_append] at h_; exact eq_false (Nat.not_lt.2 h_))
                        by_cases c56 : ((rd_T48 ((rd_T46 l0_1 x47_2).f2) x74_4).f2).toList = ([] : List UInt8)
                        ·rw [if_pos c56] at H
                         have c56b0 : (((rd_T48 ((rd_T46 l0_1 x47_2).f2) x74_4).f2).toList == ([] : List UInt8)) = true := beq_iff_eq.mpr c56
                         have c56b1 : (((rd_T48 ((rd_T46 l0_1 x47_2).f2) x74_4).f2).toList != ([] : List UInt8)) = false := bne_eq_false_iff_eq.mpr c56
                         clear c56
                         by_cases c57 : ((rd_T48 ((rd_T46 l0_1 x47_2).f2) x74_4).f3).toList = ([] : List UInt8)
                         ·rw [if_pos c57] at H
                          have c57b0 : (((rd_T48 ((rd_T46 l0_1 x47_2).f2) x74_4).f3).toList == ([] : List UInt8)) = true := beq_iff_eq.mpr c57
                          have c57b1 : (((rd_T48 ((rd_T46 l0_1 x47_2).f2) x74_4).f3).toList != ([] : List UInt8)) = false := bne_eq_false_iff_eq.mpr c57
                          clear c57
                          by_cases c58 : ((((x3_4 ++ (⟨#[9, 108, 105, 110, 107, 32]⟩ : ByteArray)) ++ ((rd_T48 ((rd_T46 l0_1 x47_2).f2) x74_4).f0)) ++ (⟨#[32, 99, 111, 115, 116, 32]⟩ : ByteArray)) ++ t152).size + 2 ≤ 9223372036854775807
                          ·rw [if_pos c58] at H
                           have c58b0 := eq_true c58
                           have c58b1 := decide_eq_true c58
                           try have c58b2 := eq_false (Nat.not_lt.2 c58)
                           try have c58b3 : (9223372036854775807 < x3_4.size + 6 + ((rd_T48 ((rd_T46 l0_1 x47_2).f2) x74_4).f0).size + 6 + t152.size + 2) = False := by (have h_ := c58; simp only [ByteArray.size_append] at h_; exact eq_false (Nat.not_lt.2 h_))
                           have H' := Aside0.mk H
                           clear H
                           have p150 : 0 ≤ (x74_4 : Int) := of_decide_eq_true (by first | (with_reducible assumption) | assumption)
                           have q150 : x74_4 < (((rd_T46 l0_1 x47_2).f2).length : Int) := of_decide_eq_true (by first | (with_reducible assumption) | assumption)
                           obtain ⟨ad150, e150, hx150_0, hx150_1, hx150_2, hx150_3, hx150_4⟩ := at_T48 HR145_2.out x74_4 p150 q150
                           cases e150
                           replace hx150_0 := (HB.out.cell (World.block_lt_of_cell? w _ hx150_0)).trans hx150_0
                           replace hx150_1 := (HB.out.cell (World.block_lt_of_cell? w _ hx150_1)).trans hx150_1
                           replace hx150_2 := (HB.out.cell (World.block_lt_of_cell? w _ hx150_2)).trans hx150_2
                           replace hx150_3 := (HB.out.cell (World.block_lt_of_cell? w _ hx150_3)).trans hx150_3
                           replace hx150_4 := (HB.out.cell (World.block_lt_of_cell? w _ hx150_4)).trans hx150_4
                           replace p150 := eq_true p150
                           replace q150 := eq_true q150
                           try go_wp2_with (first | ((with_reducible refine gate_dst (N := 13) rfl ?_); refine bx 13 (cs := #[.string (⟨#[]⟩ : ByteArray), .int .i64 0, .string (⟨#[]⟩ : ByteArray), .string (⟨#[]⟩ : ByteArray), .int .i64 0]) (t := 48) (h := ?_); intro gb151 hg w59 hbox hb; have BK151 := Aside0.mk hbox; have GW151 : Aside0 (w.heap.size ≤ gb151) := bge hg; have GE151 : Aside0 (w.heap.size ≤ gb151) := bge hg; have NB139_151 := bne BK139 hg; have NB151_139 := bnf BK139 hg; have NB146_151 := bne BK146 hg; have NB151_146 := bnf BK146 hg; replace BK139 := bkb BK139 hb; replace BK146 := bkb BK146 hb; replace HB := bst hb; clear hb hbox hg; have hnb60 := NB151_139.out; have hnc60 := NB139_151.out; have hnb61 := NB151_146.out; have hnc61 := NB146_151.out; obtain ⟨hcz62_0, hcz62_1, hcz62_2, hcz62_3, hcz62_4, hfz62_0, hfz62_1, hfz62_2, hfz62_3, hfz62_4⟩ := bc5 BK151))
                           have n0_ : Aside0 ((((((w59.setCell ⟨gb151, 0, none⟩ (.string ((rd_T48 ((rd_T46 l0_1 x47_2).f2) x74_4).f0))).setCell ⟨gb151, 1, none⟩ (.int .i64 ((rd_T48 ((rd_T46 l0_1 x47_2).f2) x74_4).f1))).setCell ⟨gb151, 2, none⟩ (.string ((rd_T48 ((rd_T46 l0_1 x47_2).f2) x74_4).f2))).setCell ⟨gb151, 3, none⟩ (.string ((rd_T48 ((rd_T46 l0_1 x47_2).f2) x74_4).f3))).setCell ⟨gb151, 4, none⟩ (.int .i64 ((rd_T48 ((rd_T46 l0_1 x47_2).f2) x74_4).f4))).heap[gb139]? = some (.cells #[.slice A0_0 l0_0.length c0_0, .slice (some ad145) l0_1.length c0_1] 30 (0, 0))) := ⟨bkq BK139⟩
                           have n1_ : Aside0 ((((((w59.setCell ⟨gb151, 0, none⟩ (.string ((rd_T48 ((rd_T46 l0_1 x47_2).f2) x74_4).f0))).setCell ⟨gb151, 1, none⟩ (.int .i64 ((rd_T48 ((rd_T46 l0_1 x47_2).f2) x74_4).f1))).setCell ⟨gb151, 2, none⟩ (.string ((rd_T48 ((rd_T46 l0_1 x47_2).f2) x74_4).f2))).setCell ⟨gb151, 3, none⟩ (.string ((rd_T48 ((rd_T46 l0_1 x47_2).f2) x74_4).f3))).setCell ⟨gb151, 4, none⟩ (.int .i64 ((rd_T48 ((rd_T46 l0_1 x47_2).f2) x74_4).f4))).heap[gb146]? = some (.cells #[.string ((rd_T46 l0_1 x47_2).f0), .slice A145_1 ((rd_T46 l0_1 x47_2).f1).length c145_1, .slice (some ad150) ((rd_T46 l0_1 x47_2).f2).length c145_2, .slice A145_3 ((rd_T46 l0_1 x47_2).f3).length c145_3, .int .i64 ((rd_T46 l0_1 x47_2).f4)] 46 (0, 0))) := ⟨bkq BK146⟩
                           have n2_ : Aside0 ((((((w59.setCell ⟨gb151, 0, none⟩ (.string ((rd_T48 ((rd_T46 l0_1 x47_2).f2) x74_4).f0))).setCell ⟨gb151, 1, none⟩ (.int .i64 ((rd_T48 ((rd_T46 l0_1 x47_2).f2) x74_4).f1))).setCell ⟨gb151, 2, none⟩ (.string ((rd_T48 ((rd_T46 l0_1 x47_2).f2) x74_4).f2))).setCell ⟨gb151, 3, none⟩ (.string ((rd_T48 ((rd_T46 l0_1 x47_2).f2) x74_4).f3))).setCell ⟨gb151, 4, none⟩ (.int .i64 ((rd_T48 ((rd_T46 l0_1 x47_2).f2) x74_4).f4))).heap[gb151]? = some (.cells #[.string ((rd_T48 ((rd_T46 l0_1 x47_2).f2) x74_4).f0), .int .i64 ((rd_T48 ((rd_T46 l0_1 x47_2).f2) x74_4).f1), .string ((rd_T48 ((rd_T46 l0_1 x47_2).f2) x74_4).f2), .string ((rd_T48 ((rd_T46 l0_1 x47_2).f2) x74_4).f3), .int .i64 ((rd_T48 ((rd_T46 l0_1 x47_2).f2) x74_4).f4)] 48 (0, 0))) := ⟨bkp BK151⟩
                           have n3_ : Aside0 (Below w.heap.size w (((((w59.setCell ⟨gb151, 0, none⟩ (.string ((rd_T48 ((rd_T46 l0_1 x47_2).f2) x74_4).f0))).setCell ⟨gb151, 1, none⟩ (.int .i64 ((rd_T48 ((rd_T46 l0_1 x47_2).f2) x74_4).f1))).setCell ⟨gb151, 2, none⟩ (.string ((rd_T48 ((rd_T46 l0_1 x47_2).f2) x74_4).f2))).setCell ⟨gb151, 3, none⟩ (.string ((rd_T48 ((rd_T46 l0_1 x47_2).f2) x74_4).f3))).setCell ⟨gb151, 4, none⟩ (.int .i64 ((rd_T48 ((rd_T46 l0_1 x47_2).f2) x74_4).f4)))) := ⟨by repeat (first | (with_reducible first | exact HB.out | apply below_alloc | apply pw_below_drewN | apply below_drew1 | refine below_set ?_ GE139.out | refine below_set ?_ GE146.out | refine below_set ?_ GE151.out) | exact HB.out)⟩
                           (try clear BK139)
                           (try clear BK146)
                           (try clear BK151)
                           (try clear HB)
                           generalize (((((w59.setCell ⟨gb151, 0, none⟩ (.string ((rd_T48 ((rd_T46 l0_1 x47_2).f2) x74_4).f0))).setCell ⟨gb151, 1, none⟩ (.int .i64 ((rd_T48 ((rd_T46 l0_1 x47_2).f2) x74_4).f1))).setCell ⟨gb151, 2, none⟩ (.string ((rd_T48 ((rd_T46 l0_1 x47_2).f2) x74_4).f2))).setCell ⟨gb151, 3, none⟩ (.string ((rd_T48 ((rd_T46 l0_1 x47_2).f2) x74_4).f3))).setCell ⟨gb151, 4, none⟩ (.int .i64 ((rd_T48 ((rd_T46 l0_1 x47_2).f2) x74_4).f4))) = w63 at n0_ n1_ n2_ n3_ ⊢
                           have BK139 := n0_
                           have BK146 := n1_
                           have BK151 := n2_
                           have HB := n3_
                           clear n0_ n1_ n2_ n3_
                           replace BK139 := Aside0.mk (blk_drew BK139.out)
                           replace BK146 := Aside0.mk (blk_drew BK146.out)
                           replace BK151 := Aside0.mk (blk_drew BK151.out)
                           replace HB := Aside0.mk (below_drew1 HB.out)
                           refine start_ (n := 11) (S := fun w' => CE5 w' gb151 (.string ((rd_T48 ((rd_T46 l0_1 x47_2).f2) x74_4).f0)) (.int .i64 ((rd_T48 ((rd_T46 l0_1 x47_2).f2) x74_4).f1)) (.string ((rd_T48 ((rd_T46 l0_1 x47_2).f2) x74_4).f2)) (.string ((rd_T48 ((rd_T46 l0_1 x47_2).f2) x74_4).f3)) (.int .i64 ((rd_T48 ((rd_T46 l0_1 x47_2).f2) x74_4).f4))) (ds := []) #[false, false, false, false, false, false, false, false, false, false, false] (by kernel_rfl) rfl rfl (he5 BK151) (fun hHeld => ?_); refine with_tabW maquettelaw07_Text.tab25 maquettelaw07_Text.bits25 (fun HT_ HW_ => ?_)
                           generalize w63.drew = w64 at BK139 BK146 BK151 HB hHeld ⊢
                           refine pu HT_ 0 (some 78) (mk 11 1) ?_
                           refine pu HT_ 1 (some 79) (mk 11 3) ?_
                           refine pu HT_ 2 (some 80) (mk 11 7) ?_
                           refine pu HT_ 6 (some 84) (mk 11 71) ?_
                           refine tk HT_ HW_ 3 (some 81) (mk 11 79) hHeld ?_
                           refine pu HT_ 4 (some 82) (mk 11 95) ?_
                           refine pu HT_ 5 (some 83) (mk 11 127) ?_
                           refine tk HT_ HW_ 7 (some 85) (mk 11 255) hHeld ?_
                           refine on HT_ 8 (some 86) (mk 11 511) fun K hK => ?_
                           refine go1 Tryd.func24 #[.int .i64 ((rd_T48 ((rd_T46 l0_1 x47_2).f2) x74_4).f1)] ?_
                           with_reducible refine (maquettelaw07_digits.calls k4 ((rd_T48 ((rd_T46 l0_1 x47_2).f2) x74_4).f1) t152 _ A54.out).mono ?_
                           rintro e w' ⟨rfl, ⟨nd, rfl⟩⟩
                           refine ⟨_, rfl, ?_⟩
                           refine hK.out _ _ (he5 BK151) (fun hHeld => ?_)
                           clear hK K
                           refine nm (some 86) ?_
                           refine pu HT_ 9 (some 87) (mk 11 1023) ?_
                           refine pu HT_ 10 (some 3) (mk 11 2047) ?_
                           refine done_ (done_of HT_.out (by kernel_rfl)) ?_
                           obtain ⟨hcz65_0, hcz65_1, hcz65_2, hcz65_3, hcz65_4, hfz65_0, hfz65_1, hfz65_2, hfz65_3, hfz65_4⟩ := bc5 BK151
                           try go_wp2
                           go_roundg k4
                           case measure => have := HK1.out; have := HK2.out; have := HK3.out; have := HK4.out; omega
                           case rel => exact ⟨(((((x3_4 ++ (⟨#[9, 108, 105, 110, 107, 32]⟩ : ByteArray)) ++ ((rd_T48 ((rd_T46 l0_1 x47_2).f2) x74_4).f0)) ++ (⟨#[32, 99, 111, 115, 116, 32]⟩ : ByteArray)) ++ t152) ++ (⟨#[59, 10]⟩ : ByteArray)), (wrap64 (x74_4 + 1)), (by first | rfl | (simp; done) | (simp [*]; done)), (by first | rfl | (simp; done) | (simp [*]; done)), H', ⟨by have := HK1.out; have := HK2.out; have := HK3.out; have := HK4.out; omega⟩, ⟨bkq BK139⟩, ⟨bkq BK146⟩, ⟨by repeat (first | (with_reducible first | exact HB.out | apply below_alloc | apply pw_below_drewN | apply below_drew1 | refine below_set ?_ GE139.out | refine below_set ?_ GE146.out | refine below_set ?_ GE151.out) | exact HB.out)⟩⟩
                          ·rw [if_neg c58] at H
                           exact absurd H (by simp)
                         ·rw [if_neg c57] at H
                          have c57b0 : (((rd_T48 ((rd_T46 l0_1 x47_2).f2) x74_4).f3).toList == ([] : List UInt8)) = false := beq_eq_false_iff_ne.mpr c57
                          have c57b1 : (((rd_T48 ((rd_T46 l0_1 x47_2).f2) x74_4).f3).toList != ([] : List UInt8)) = true := bne_iff_ne.mpr c57
                          by_cases c66 : ((((x3_4 ++ (⟨#[9, 108, 105, 110, 107, 32]⟩ : ByteArray)) ++ ((rd_T48 ((rd_T46 l0_1 x47_2).f2) x74_4).f0)) ++ (⟨#[32, 99, 111, 115, 116, 32]⟩ : ByteArray)) ++ t152).size + 8 ≤ 9223372036854775807
                          ·rw [if_pos c66] at H
                           have c66b0 := eq_true c66
                           have c66b1 := decide_eq_true c66
                           try have c66b2 := eq_false (Nat.not_lt.2 c66)
                           try have c66b3 : (9223372036854775807 < x3_4.size + 6 + ((rd_T48 ((rd_T46 l0_1 x47_2).f2) x74_4).f0).size + 6 + t152.size + 8) = False := by (have h_ := c66; simp only [ByteArray.size_append] at h_; exact eq_false (Nat.not_lt.2 h_))
                           by_cases c67 : (((((x3_4 ++ (⟨#[9, 108, 105, 110, 107, 32]⟩ : ByteArray)) ++ ((rd_T48 ((rd_T46 l0_1 x47_2).f2) x74_4).f0)) ++ (⟨#[32, 99, 111, 115, 116, 32]⟩ : ByteArray)) ++ t152) ++ (⟨#[32, 101, 120, 112, 111, 114, 116, 32]⟩ : ByteArray)).size + ((rd_T48 ((rd_T46 l0_1 x47_2).f2) x74_4).f3).size ≤ 9223372036854775807
                           ·rw [if_pos c67] at H
                            have c67b0 := eq_true c67
                            have c67b1 := decide_eq_true c67
                            try have c67b2 := eq_false (Nat.not_lt.2 c67)
                            try have c67b3 : (9223372036854775807 < x3_4.size + 6 + ((rd_T48 ((rd_T46 l0_1 x47_2).f2) x74_4).f0).size + 6 + t152.size + 8 + ((rd_T48 ((rd_T46 l0_1 x47_2).f2) x74_4).f3).size) = False := by (have h_ := c67; simp only [ByteArray.size_append] at h_; exact eq_false (Nat.not_lt.2 h_))
                            by_cases c68 : ((((((x3_4 ++ (⟨#[9, 108, 105, 110, 107, 32]⟩ : ByteArray)) ++ ((rd_T48 ((rd_T46 l0_1 x47_2).f2) x74_4).f0)) ++ (⟨#[32, 99, 111, 115, 116, 32]⟩ : ByteArray)) ++ t152) ++ (⟨#[32, 101, 120, 112, 111, 114, 116, 32]⟩ : ByteArray)) ++ ((rd_T48 ((rd_T46 l0_1 x47_2).f2) x74_4).f3)).size + 2 ≤ 9223372036854775807
                            ·rw [if_pos c68] at H
                             have c68b0 := eq_true c68
                             have c68b1 := decide_eq_true c68
                             try have c68b2 := eq_false (Nat.not_lt.2 c68)
                             try have c68b3 : (9223372036854775807 < x3_4.size + 6 + ((rd_T48 ((rd_T46 l0_1 x47_2).f2) x74_4).f0).size + 6 + t152.size + 8 + ((rd_T48 ((rd_T46 l0_1 x47_2).f2) x74_4).f3).size + 2) = False := by (have h_ := c68; simp only [ByteArray.size_append] at h_; exact eq_false (Nat.not_lt.2 h_))
                             have H' := Aside0.mk H
                             clear H
                             have p150 : 0 ≤ (x74_4 : Int) := of_decide_eq_true (by first | (with_reducible assumption) | assumption)
                             have q150 : x74_4 < (((rd_T46 l0_1 x47_2).f2).length : Int) := of_decide_eq_true (by first | (with_reducible assumption) | assumption)
                             obtain ⟨ad150, e150, hx150_0, hx150_1, hx150_2, hx150_3, hx150_4⟩ := at_T48 HR145_2.out x74_4 p150 q150
                             cases e150
                             replace hx150_0 := (HB.out.cell (World.block_lt_of_cell? w _ hx150_0)).trans hx150_0
                             replace hx150_1 := (HB.out.cell (World.block_lt_of_cell? w _ hx150_1)).trans hx150_1
                             replace hx150_2 := (HB.out.cell (World.block_lt_of_cell? w _ hx150_2)).trans hx150_2
                             replace hx150_3 := (HB.out.cell (World.block_lt_of_cell? w _ hx150_3)).trans hx150_3
                             replace hx150_4 := (HB.out.cell (World.block_lt_of_cell? w _ hx150_4)).trans hx150_4
                             replace p150 := eq_true p150
                             replace q150 := eq_true q150
                             try go_wp2_with (first | ((with_reducible refine gate_dst (N := 13) rfl ?_); refine bx 13 (cs := #[.string (⟨#[]⟩ : ByteArray), .int .i64 0, .string (⟨#[]⟩ : ByteArray), .string (⟨#[]⟩ : ByteArray), .int .i64 0]) (t := 48) (h := ?_); intro gb151 hg w69 hbox hb; have BK151 := Aside0.mk hbox; have GW151 : Aside0 (w.heap.size ≤ gb151) := bge hg; have GE151 : Aside0 (w.heap.size ≤ gb151) := bge hg; have NB139_151 := bne BK139 hg; have NB151_139 := bnf BK139 hg; have NB146_151 := bne BK146 hg; have NB151_146 := bnf BK146 hg; replace BK139 := bkb BK139 hb; replace BK146 := bkb BK146 hb; replace HB := bst hb; clear hb hbox hg; have hnb70 := NB151_139.out; have hnc70 := NB139_151.out; have hnb71 := NB151_146.out; have hnc71 := NB146_151.out; obtain ⟨hcz72_0, hcz72_1, hcz72_2, hcz72_3, hcz72_4, hfz72_0, hfz72_1, hfz72_2, hfz72_3, hfz72_4⟩ := bc5 BK151))
                             have n0_ : Aside0 ((((((w69.setCell ⟨gb151, 0, none⟩ (.string ((rd_T48 ((rd_T46 l0_1 x47_2).f2) x74_4).f0))).setCell ⟨gb151, 1, none⟩ (.int .i64 ((rd_T48 ((rd_T46 l0_1 x47_2).f2) x74_4).f1))).setCell ⟨gb151, 2, none⟩ (.string ((rd_T48 ((rd_T46 l0_1 x47_2).f2) x74_4).f2))).setCell ⟨gb151, 3, none⟩ (.string ((rd_T48 ((rd_T46 l0_1 x47_2).f2) x74_4).f3))).setCell ⟨gb151, 4, none⟩ (.int .i64 ((rd_T48 ((rd_T46 l0_1 x47_2).f2) x74_4).f4))).heap[gb139]? = some (.cells #[.slice A0_0 l0_0.length c0_0, .slice (some ad145) l0_1.length c0_1] 30 (0, 0))) := ⟨bkq BK139⟩
                             have n1_ : Aside0 ((((((w69.setCell ⟨gb151, 0, none⟩ (.string ((rd_T48 ((rd_T46 l0_1 x47_2).f2) x74_4).f0))).setCell ⟨gb151, 1, none⟩ (.int .i64 ((rd_T48 ((rd_T46 l0_1 x47_2).f2) x74_4).f1))).setCell ⟨gb151, 2, none⟩ (.string ((rd_T48 ((rd_T46 l0_1 x47_2).f2) x74_4).f2))).setCell ⟨gb151, 3, none⟩ (.string ((rd_T48 ((rd_T46 l0_1 x47_2).f2) x74_4).f3))).setCell ⟨gb151, 4, none⟩ (.int .i64 ((rd_T48 ((rd_T46 l0_1 x47_2).f2) x74_4).f4))).heap[gb146]? = some (.cells #[.string ((rd_T46 l0_1 x47_2).f0), .slice A145_1 ((rd_T46 l0_1 x47_2).f1).length c145_1, .slice (some ad150) ((rd_T46 l0_1 x47_2).f2).length c145_2, .slice A145_3 ((rd_T46 l0_1 x47_2).f3).length c145_3, .int .i64 ((rd_T46 l0_1 x47_2).f4)] 46 (0, 0))) := ⟨bkq BK146⟩
                             have n2_ : Aside0 ((((((w69.setCell ⟨gb151, 0, none⟩ (.string ((rd_T48 ((rd_T46 l0_1 x47_2).f2) x74_4).f0))).setCell ⟨gb151, 1, none⟩ (.int .i64 ((rd_T48 ((rd_T46 l0_1 x47_2).f2) x74_4).f1))).setCell ⟨gb151, 2, none⟩ (.string ((rd_T48 ((rd_T46 l0_1 x47_2).f2) x74_4).f2))).setCell ⟨gb151, 3, none⟩ (.string ((rd_T48 ((rd_T46 l0_1 x47_2).f2) x74_4).f3))).setCell ⟨gb151, 4, none⟩ (.int .i64 ((rd_T48 ((rd_T46 l0_1 x47_2).f2) x74_4).f4))).heap[gb151]? = some (.cells #[.string ((rd_T48 ((rd_T46 l0_1 x47_2).f2) x74_4).f0), .int .i64 ((rd_T48 ((rd_T46 l0_1 x47_2).f2) x74_4).f1), .string ((rd_T48 ((rd_T46 l0_1 x47_2).f2) x74_4).f2), .string ((rd_T48 ((rd_T46 l0_1 x47_2).f2) x74_4).f3), .int .i64 ((rd_T48 ((rd_T46 l0_1 x47_2).f2) x74_4).f4)] 48 (0, 0))) := ⟨bkp BK151⟩
                             have n3_ : Aside0 (Below w.heap.size w (((((w69.setCell ⟨gb151, 0, none⟩ (.string ((rd_T48 ((rd_T46 l0_1 x47_2).f2) x74_4).f0))).setCell ⟨gb151, 1, none⟩ (.int .i64 ((rd_T48 ((rd_T46 l0_1 x47_2).f2) x74_4).f1))).setCell ⟨gb151, 2, none⟩ (.string ((rd_T48 ((rd_T46 l0_1 x47_2).f2) x74_4).f2))).setCell ⟨gb151, 3, none⟩ (.string ((rd_T48 ((rd_T46 l0_1 x47_2).f2) x74_4).f3))).setCell ⟨gb151, 4, none⟩ (.int .i64 ((rd_T48 ((rd_T46 l0_1 x47_2).f2) x74_4).f4)))) := ⟨by repeat (first | (with_reducible first | exact HB.out | apply below_alloc | apply pw_below_drewN | apply below_drew1 | refine below_set ?_ GE139.out | refine below_set ?_ GE146.out | refine below_set ?_ GE151.out) | exact HB.out)⟩
                             (try clear BK139)
                             (try clear BK146)
                             (try clear BK151)
                             (try clear HB)
                             generalize (((((w69.setCell ⟨gb151, 0, none⟩ (.string ((rd_T48 ((rd_T46 l0_1 x47_2).f2) x74_4).f0))).setCell ⟨gb151, 1, none⟩ (.int .i64 ((rd_T48 ((rd_T46 l0_1 x47_2).f2) x74_4).f1))).setCell ⟨gb151, 2, none⟩ (.string ((rd_T48 ((rd_T46 l0_1 x47_2).f2) x74_4).f2))).setCell ⟨gb151, 3, none⟩ (.string ((rd_T48 ((rd_T46 l0_1 x47_2).f2) x74_4).f3))).setCell ⟨gb151, 4, none⟩ (.int .i64 ((rd_T48 ((rd_T46 l0_1 x47_2).f2) x74_4).f4))) = w73 at n0_ n1_ n2_ n3_ ⊢
                             have BK139 := n0_
                             have BK146 := n1_
                             have BK151 := n2_
                             have HB := n3_
                             clear n0_ n1_ n2_ n3_
                             replace BK139 := Aside0.mk (blk_drew BK139.out)
                             replace BK146 := Aside0.mk (blk_drew BK146.out)
                             replace BK151 := Aside0.mk (blk_drew BK151.out)
                             replace HB := Aside0.mk (below_drew1 HB.out)
                             refine start_ (n := 11) (S := fun w' => CE5 w' gb151 (.string ((rd_T48 ((rd_T46 l0_1 x47_2).f2) x74_4).f0)) (.int .i64 ((rd_T48 ((rd_T46 l0_1 x47_2).f2) x74_4).f1)) (.string ((rd_T48 ((rd_T46 l0_1 x47_2).f2) x74_4).f2)) (.string ((rd_T48 ((rd_T46 l0_1 x47_2).f2) x74_4).f3)) (.int .i64 ((rd_T48 ((rd_T46 l0_1 x47_2).f2) x74_4).f4))) (ds := []) #[false, false, false, false, false, false, false, false, false, false, false] (by kernel_rfl) rfl rfl (he5 BK151) (fun hHeld => ?_); refine with_tabW maquettelaw07_Text.tab25 maquettelaw07_Text.bits25 (fun HT_ HW_ => ?_)
                             generalize w73.drew = w74 at BK139 BK146 BK151 HB hHeld ⊢
                             refine pu HT_ 0 (some 78) (mk 11 1) ?_
                             refine pu HT_ 1 (some 79) (mk 11 3) ?_
                             refine pu HT_ 2 (some 80) (mk 11 7) ?_
                             refine pu HT_ 6 (some 84) (mk 11 71) ?_
                             refine tk HT_ HW_ 3 (some 81) (mk 11 79) hHeld ?_
                             refine pu HT_ 4 (some 82) (mk 11 95) ?_
                             refine pu HT_ 5 (some 83) (mk 11 127) ?_
                             refine tk HT_ HW_ 7 (some 85) (mk 11 255) hHeld ?_
                             refine on HT_ 8 (some 86) (mk 11 511) fun K hK => ?_
                             refine go1 Tryd.func24 #[.int .i64 ((rd_T48 ((rd_T46 l0_1 x47_2).f2) x74_4).f1)] ?_
                             with_reducible refine (maquettelaw07_digits.calls k4 ((rd_T48 ((rd_T46 l0_1 x47_2).f2) x74_4).f1) t152 _ A54.out).mono ?_
                             rintro e w' ⟨rfl, ⟨nd, rfl⟩⟩
                             refine ⟨_, rfl, ?_⟩
                             refine hK.out _ _ (he5 BK151) (fun hHeld => ?_)
                             clear hK K
                             refine nm (some 86) ?_
                             refine pu HT_ 9 (some 87) (mk 11 1023) ?_
                             refine pu HT_ 10 (some 3) (mk 11 2047) ?_
                             refine done_ (done_of HT_.out (by kernel_rfl)) ?_
                             obtain ⟨hcz75_0, hcz75_1, hcz75_2, hcz75_3, hcz75_4, hfz75_0, hfz75_1, hfz75_2, hfz75_3, hfz75_4⟩ := bc5 BK151
                             try go_wp2
                             go_roundg k4
                             case measure => have := HK1.out; have := HK2.out; have := HK3.out; have := HK4.out; omega
                             case rel => exact ⟨(((((((x3_4 ++ (⟨#[9, 108, 105, 110, 107, 32]⟩ : ByteArray)) ++ ((rd_T48 ((rd_T46 l0_1 x47_2).f2) x74_4).f0)) ++ (⟨#[32, 99, 111, 115, 116, 32]⟩ : ByteArray)) ++ t152) ++ (⟨#[32, 101, 120, 112, 111, 114, 116, 32]⟩ : ByteArray)) ++ ((rd_T48 ((rd_T46 l0_1 x47_2).f2) x74_4).f3)) ++ (⟨#[59, 10]⟩ : ByteArray)), (wrap64 (x74_4 + 1)), (by first | rfl | (simp; done) | (simp [*]; done)), (by first | rfl | (simp; done) | (simp [*]; done)), H', ⟨by have := HK1.out; have := HK2.out; have := HK3.out; have := HK4.out; omega⟩, ⟨bkq BK139⟩, ⟨bkq BK146⟩, ⟨by repeat (first | (with_reducible first | exact HB.out | apply below_alloc | apply pw_below_drewN | apply below_drew1 | refine below_set ?_ GE139.out | refine below_set ?_ GE146.out | refine below_set ?_ GE151.out) | exact HB.out)⟩⟩
                            ·rw [if_neg c68] at H
                             exact absurd H (by simp)
                           ·rw [if_neg c67] at H
                            exact absurd H (by simp)
                          ·rw [if_neg c66] at H
                           exact absurd H (by simp)
                        ·rw [if_neg c56] at H
                         have c56b0 : (((rd_T48 ((rd_T46 l0_1 x47_2).f2) x74_4).f2).toList == ([] : List UInt8)) = false := beq_eq_false_iff_ne.mpr c56
                         have c56b1 : (((rd_T48 ((rd_T46 l0_1 x47_2).f2) x74_4).f2).toList != ([] : List UInt8)) = true := bne_iff_ne.mpr c56
                         by_cases c76 : ((((x3_4 ++ (⟨#[9, 108, 105, 110, 107, 32]⟩ : ByteArray)) ++ ((rd_T48 ((rd_T46 l0_1 x47_2).f2) x74_4).f0)) ++ (⟨#[32, 99, 111, 115, 116, 32]⟩ : ByteArray)) ++ t152).size + 8 ≤ 9223372036854775807
                         ·rw [if_pos c76] at H
                          have c76b0 := eq_true c76
                          have c76b1 := decide_eq_true c76
                          try have c76b2 := eq_false (Nat.not_lt.2 c76)
                          try have c76b3 : (9223372036854775807 < x3_4.size + 6 + ((rd_T48 ((rd_T46 l0_1 x47_2).f2) x74_4).f0).size + 6 + t152.size + 8) = False := by (have h_ := c76; simp only [ByteArray.size_append] at h_; exact eq_false (Nat.not_lt.2 h_))
                          by_cases c77 : (((((x3_4 ++ (⟨#[9, 108, 105, 110, 107, 32]⟩ : ByteArray)) ++ ((rd_T48 ((rd_T46 l0_1 x47_2).f2) x74_4).f0)) ++ (⟨#[32, 99, 111, 115, 116, 32]⟩ : ByteArray)) ++ t152) ++ (⟨#[32, 105, 109, 112, 111, 114, 116, 32]⟩ : ByteArray)).size + ((rd_T48 ((rd_T46 l0_1 x47_2).f2) x74_4).f2).size ≤ 9223372036854775807
                          ·rw [if_pos c77] at H
                           have c77b0 := eq_true c77
                           have c77b1 := decide_eq_true c77
                           try have c77b2 := eq_false (Nat.not_lt.2 c77)
                           try have c77b3 : (9223372036854775807 < x3_4.size + 6 + ((rd_T48 ((rd_T46 l0_1 x47_2).f2) x74_4).f0).size + 6 + t152.size + 8 + ((rd_T48 ((rd_T46 l0_1 x47_2).f2) x74_4).f2).size) = False := by (have h_ := c77; simp only [ByteArray.size_append] at h_; exact eq_false (Nat.not_lt.2 h_))
                           by_cases c78 : ((rd_T48 ((rd_T46 l0_1 x47_2).f2) x74_4).f3).toList = ([] : List UInt8)
                           ·rw [if_pos c78] at H
                            have c78b0 : (((rd_T48 ((rd_T46 l0_1 x47_2).f2) x74_4).f3).toList == ([] : List UInt8)) = true := beq_iff_eq.mpr c78
                            have c78b1 : (((rd_T48 ((rd_T46 l0_1 x47_2).f2) x74_4).f3).toList != ([] : List UInt8)) = false := bne_eq_false_iff_eq.mpr c78
                            clear c78
                            by_cases c79 : ((((((x3_4 ++ (⟨#[9, 108, 105, 110, 107, 32]⟩ : ByteArray)) ++ ((rd_T48 ((rd_T46 l0_1 x47_2).f2) x74_4).f0)) ++ (⟨#[32, 99, 111, 115, 116, 32]⟩ : ByteArray)) ++ t152) ++ (⟨#[32, 105, 109, 112, 111, 114, 116, 32]⟩ : ByteArray)) ++ ((rd_T48 ((rd_T46 l0_1 x47_2).f2) x74_4).f2)).size + 2 ≤ 9223372036854775807
                            ·rw [if_pos c79] at H
                             have c79b0 := eq_true c79
                             have c79b1 := decide_eq_true c79
                             try have c79b2 := eq_false (Nat.not_lt.2 c79)
                             try have c79b3 : (9223372036854775807 < x3_4.size + 6 + ((rd_T48 ((rd_T46 l0_1 x47_2).f2) x74_4).f0).size + 6 + t152.size + 8 + ((rd_T48 ((rd_T46 l0_1 x47_2).f2) x74_4).f2).size + 2) = False := by (have h_ := c79; simp only [ByteArray.size_append] at h_; exact eq_false (Nat.not_lt.2 h_))
                             have H' := Aside0.mk H
                             clear H
                             have p150 : 0 ≤ (x74_4 : Int) := of_decide_eq_true (by first | (with_reducible assumption) | assumption)
                             have q150 : x74_4 < (((rd_T46 l0_1 x47_2).f2).length : Int) := of_decide_eq_true (by first | (with_reducible assumption) | assumption)
                             obtain ⟨ad150, e150, hx150_0, hx150_1, hx150_2, hx150_3, hx150_4⟩ := at_T48 HR145_2.out x74_4 p150 q150
                             cases e150
                             replace hx150_0 := (HB.out.cell (World.block_lt_of_cell? w _ hx150_0)).trans hx150_0
                             replace hx150_1 := (HB.out.cell (World.block_lt_of_cell? w _ hx150_1)).trans hx150_1
                             replace hx150_2 := (HB.out.cell (World.block_lt_of_cell? w _ hx150_2)).trans hx150_2
                             replace hx150_3 := (HB.out.cell (World.block_lt_of_cell? w _ hx150_3)).trans hx150_3
                             replace hx150_4 := (HB.out.cell (World.block_lt_of_cell? w _ hx150_4)).trans hx150_4
                             replace p150 := eq_true p150
                             replace q150 := eq_true q150
                             try go_wp2_with (first | ((with_reducible refine gate_dst (N := 13) rfl ?_); refine bx 13 (cs := #[.string (⟨#[]⟩ : ByteArray), .int .i64 0, .string (⟨#[]⟩ : ByteArray), .string (⟨#[]⟩ : ByteArray), .int .i64 0]) (t := 48) (h := ?_); intro gb151 hg w80 hbox hb; have BK151 := Aside0.mk hbox; have GW151 : Aside0 (w.heap.size ≤ gb151) := bge hg; have GE151 : Aside0 (w.heap.size ≤ gb151) := bge hg; have NB139_151 := bne BK139 hg; have NB151_139 := bnf BK139 hg; have NB146_151 := bne BK146 hg; have NB151_146 := bnf BK146 hg; replace BK139 := bkb BK139 hb; replace BK146 := bkb BK146 hb; replace HB := bst hb; clear hb hbox hg; have hnb81 := NB151_139.out; have hnc81 := NB139_151.out; have hnb82 := NB151_146.out; have hnc82 := NB146_151.out; obtain ⟨hcz83_0, hcz83_1, hcz83_2, hcz83_3, hcz83_4, hfz83_0, hfz83_1, hfz83_2, hfz83_3, hfz83_4⟩ := bc5 BK151))
                             have n0_ : Aside0 ((((((w80.setCell ⟨gb151, 0, none⟩ (.string ((rd_T48 ((rd_T46 l0_1 x47_2).f2) x74_4).f0))).setCell ⟨gb151, 1, none⟩ (.int .i64 ((rd_T48 ((rd_T46 l0_1 x47_2).f2) x74_4).f1))).setCell ⟨gb151, 2, none⟩ (.string ((rd_T48 ((rd_T46 l0_1 x47_2).f2) x74_4).f2))).setCell ⟨gb151, 3, none⟩ (.string ((rd_T48 ((rd_T46 l0_1 x47_2).f2) x74_4).f3))).setCell ⟨gb151, 4, none⟩ (.int .i64 ((rd_T48 ((rd_T46 l0_1 x47_2).f2) x74_4).f4))).heap[gb139]? = some (.cells #[.slice A0_0 l0_0.length c0_0, .slice (some ad145) l0_1.length c0_1] 30 (0, 0))) := ⟨bkq BK139⟩
                             have n1_ : Aside0 ((((((w80.setCell ⟨gb151, 0, none⟩ (.string ((rd_T48 ((rd_T46 l0_1 x47_2).f2) x74_4).f0))).setCell ⟨gb151, 1, none⟩ (.int .i64 ((rd_T48 ((rd_T46 l0_1 x47_2).f2) x74_4).f1))).setCell ⟨gb151, 2, none⟩ (.string ((rd_T48 ((rd_T46 l0_1 x47_2).f2) x74_4).f2))).setCell ⟨gb151, 3, none⟩ (.string ((rd_T48 ((rd_T46 l0_1 x47_2).f2) x74_4).f3))).setCell ⟨gb151, 4, none⟩ (.int .i64 ((rd_T48 ((rd_T46 l0_1 x47_2).f2) x74_4).f4))).heap[gb146]? = some (.cells #[.string ((rd_T46 l0_1 x47_2).f0), .slice A145_1 ((rd_T46 l0_1 x47_2).f1).length c145_1, .slice (some ad150) ((rd_T46 l0_1 x47_2).f2).length c145_2, .slice A145_3 ((rd_T46 l0_1 x47_2).f3).length c145_3, .int .i64 ((rd_T46 l0_1 x47_2).f4)] 46 (0, 0))) := ⟨bkq BK146⟩
                             have n2_ : Aside0 ((((((w80.setCell ⟨gb151, 0, none⟩ (.string ((rd_T48 ((rd_T46 l0_1 x47_2).f2) x74_4).f0))).setCell ⟨gb151, 1, none⟩ (.int .i64 ((rd_T48 ((rd_T46 l0_1 x47_2).f2) x74_4).f1))).setCell ⟨gb151, 2, none⟩ (.string ((rd_T48 ((rd_T46 l0_1 x47_2).f2) x74_4).f2))).setCell ⟨gb151, 3, none⟩ (.string ((rd_T48 ((rd_T46 l0_1 x47_2).f2) x74_4).f3))).setCell ⟨gb151, 4, none⟩ (.int .i64 ((rd_T48 ((rd_T46 l0_1 x47_2).f2) x74_4).f4))).heap[gb151]? = some (.cells #[.string ((rd_T48 ((rd_T46 l0_1 x47_2).f2) x74_4).f0), .int .i64 ((rd_T48 ((rd_T46 l0_1 x47_2).f2) x74_4).f1), .string ((rd_T48 ((rd_T46 l0_1 x47_2).f2) x74_4).f2), .string ((rd_T48 ((rd_T46 l0_1 x47_2).f2) x74_4).f3), .int .i64 ((rd_T48 ((rd_T46 l0_1 x47_2).f2) x74_4).f4)] 48 (0, 0))) := ⟨bkp BK151⟩
                             have n3_ : Aside0 (Below w.heap.size w (((((w80.setCell ⟨gb151, 0, none⟩ (.string ((rd_T48 ((rd_T46 l0_1 x47_2).f2) x74_4).f0))).setCell ⟨gb151, 1, none⟩ (.int .i64 ((rd_T48 ((rd_T46 l0_1 x47_2).f2) x74_4).f1))).setCell ⟨gb151, 2, none⟩ (.string ((rd_T48 ((rd_T46 l0_1 x47_2).f2) x74_4).f2))).setCell ⟨gb151, 3, none⟩ (.string ((rd_T48 ((rd_T46 l0_1 x47_2).f2) x74_4).f3))).setCell ⟨gb151, 4, none⟩ (.int .i64 ((rd_T48 ((rd_T46 l0_1 x47_2).f2) x74_4).f4)))) := ⟨by repeat (first | (with_reducible first | exact HB.out | apply below_alloc | apply pw_below_drewN | apply below_drew1 | refine below_set ?_ GE139.out | refine below_set ?_ GE146.out | refine below_set ?_ GE151.out) | exact HB.out)⟩
                             (try clear BK139)
                             (try clear BK146)
                             (try clear BK151)
                             (try clear HB)
                             generalize (((((w80.setCell ⟨gb151, 0, none⟩ (.string ((rd_T48 ((rd_T46 l0_1 x47_2).f2) x74_4).f0))).setCell ⟨gb151, 1, none⟩ (.int .i64 ((rd_T48 ((rd_T46 l0_1 x47_2).f2) x74_4).f1))).setCell ⟨gb151, 2, none⟩ (.string ((rd_T48 ((rd_T46 l0_1 x47_2).f2) x74_4).f2))).setCell ⟨gb151, 3, none⟩ (.string ((rd_T48 ((rd_T46 l0_1 x47_2).f2) x74_4).f3))).setCell ⟨gb151, 4, none⟩ (.int .i64 ((rd_T48 ((rd_T46 l0_1 x47_2).f2) x74_4).f4))) = w84 at n0_ n1_ n2_ n3_ ⊢
                             have BK139 := n0_
                             have BK146 := n1_
                             have BK151 := n2_
                             have HB := n3_
                             clear n0_ n1_ n2_ n3_
                             replace BK139 := Aside0.mk (blk_drew BK139.out)
                             replace BK146 := Aside0.mk (blk_drew BK146.out)
                             replace BK151 := Aside0.mk (blk_drew BK151.out)
                             replace HB := Aside0.mk (below_drew1 HB.out)
                             refine start_ (n := 11) (S := fun w' => CE5 w' gb151 (.string ((rd_T48 ((rd_T46 l0_1 x47_2).f2) x74_4).f0)) (.int .i64 ((rd_T48 ((rd_T46 l0_1 x47_2).f2) x74_4).f1)) (.string ((rd_T48 ((rd_T46 l0_1 x47_2).f2) x74_4).f2)) (.string ((rd_T48 ((rd_T46 l0_1 x47_2).f2) x74_4).f3)) (.int .i64 ((rd_T48 ((rd_T46 l0_1 x47_2).f2) x74_4).f4))) (ds := []) #[false, false, false, false, false, false, false, false, false, false, false] (by kernel_rfl) rfl rfl (he5 BK151) (fun hHeld => ?_); refine with_tabW maquettelaw07_Text.tab25 maquettelaw07_Text.bits25 (fun HT_ HW_ => ?_)
                             generalize w84.drew = w85 at BK139 BK146 BK151 HB hHeld ⊢
                             refine pu HT_ 0 (some 78) (mk 11 1) ?_
                             refine pu HT_ 1 (some 79) (mk 11 3) ?_
                             refine pu HT_ 2 (some 80) (mk 11 7) ?_
                             refine pu HT_ 6 (some 84) (mk 11 71) ?_
                             refine tk HT_ HW_ 3 (some 81) (mk 11 79) hHeld ?_
                             refine pu HT_ 4 (some 82) (mk 11 95) ?_
                             refine pu HT_ 5 (some 83) (mk 11 127) ?_
                             refine tk HT_ HW_ 7 (some 85) (mk 11 255) hHeld ?_
                             refine on HT_ 8 (some 86) (mk 11 511) fun K hK => ?_
                             refine go1 Tryd.func24 #[.int .i64 ((rd_T48 ((rd_T46 l0_1 x47_2).f2) x74_4).f1)] ?_
                             with_reducible refine (maquettelaw07_digits.calls k4 ((rd_T48 ((rd_T46 l0_1 x47_2).f2) x74_4).f1) t152 _ A54.out).mono ?_
                             rintro e w' ⟨rfl, ⟨nd, rfl⟩⟩
                             refine ⟨_, rfl, ?_⟩
                             refine hK.out _ _ (he5 BK151) (fun hHeld => ?_)
                             clear hK K
                             refine nm (some 86) ?_
                             refine pu HT_ 9 (some 87) (mk 11 1023) ?_
                             refine pu HT_ 10 (some 3) (mk 11 2047) ?_
                             refine done_ (done_of HT_.out (by kernel_rfl)) ?_
                             obtain ⟨hcz86_0, hcz86_1, hcz86_2, hcz86_3, hcz86_4, hfz86_0, hfz86_1, hfz86_2, hfz86_3, hfz86_4⟩ := bc5 BK151
                             try go_wp2
                             go_roundg k4
                             case measure => have := HK1.out; have := HK2.out; have := HK3.out; have := HK4.out; omega
                             case rel => exact ⟨(((((((x3_4 ++ (⟨#[9, 108, 105, 110, 107, 32]⟩ : ByteArray)) ++ ((rd_T48 ((rd_T46 l0_1 x47_2).f2) x74_4).f0)) ++ (⟨#[32, 99, 111, 115, 116, 32]⟩ : ByteArray)) ++ t152) ++ (⟨#[32, 105, 109, 112, 111, 114, 116, 32]⟩ : ByteArray)) ++ ((rd_T48 ((rd_T46 l0_1 x47_2).f2) x74_4).f2)) ++ (⟨#[59, 10]⟩ : ByteArray)), (wrap64 (x74_4 + 1)), (by first | rfl | (simp; done) | (simp [*]; done)), (by first | rfl | (simp; done) | (simp [*]; done)), H', ⟨by have := HK1.out; have := HK2.out; have := HK3.out; have := HK4.out; omega⟩, ⟨bkq BK139⟩, ⟨bkq BK146⟩, ⟨by repeat (first | (with_reducible first | exact HB.out | apply below_alloc | apply pw_below_drewN | apply below_drew1 | refine below_set ?_ GE139.out | refine below_set ?_ GE146.out | refine below_set ?_ GE151.out) | exact HB.out)⟩⟩
                            ·rw [if_neg c79] at H
                             exact absurd H (by simp)
                           ·rw [if_neg c78] at H
                            have c78b0 : (((rd_T48 ((rd_T46 l0_1 x47_2).f2) x74_4).f3).toList == ([] : List UInt8)) = false := beq_eq_false_iff_ne.mpr c78
                            have c78b1 : (((rd_T48 ((rd_T46 l0_1 x47_2).f2) x74_4).f3).toList != ([] : List UInt8)) = true := bne_iff_ne.mpr c78
                            by_cases c87 : ((((((x3_4 ++ (⟨#[9, 108, 105, 110, 107, 32]⟩ : ByteArray)) ++ ((rd_T48 ((rd_T46 l0_1 x47_2).f2) x74_4).f0)) ++ (⟨#[32, 99, 111, 115, 116, 32]⟩ : ByteArray)) ++ t152) ++ (⟨#[32, 105, 109, 112, 111, 114, 116, 32]⟩ : ByteArray)) ++ ((rd_T48 ((rd_T46 l0_1 x47_2).f2) x74_4).f2)).size + 8 ≤ 9223372036854775807
                            ·rw [if_pos c87] at H
                             have c87b0 := eq_true c87
                             have c87b1 := decide_eq_true c87
                             try have c87b2 := eq_false (Nat.not_lt.2 c87)
                             try have c87b3 : (9223372036854775807 < x3_4.size + 6 + ((rd_T48 ((rd_T46 l0_1 x47_2).f2) x74_4).f0).size + 6 + t152.size + 8 + ((rd_T48 ((rd_T46 l0_1 x47_2).f2) x74_4).f2).size + 8) = False := by (have h_ := c87; simp only [ByteArray.size_append] at h_; exact eq_false (Nat.not_lt.2 h_))
                             by_cases c88 : (((((((x3_4 ++ (⟨#[9, 108, 105, 110, 107, 32]⟩ : ByteArray)) ++ ((rd_T48 ((rd_T46 l0_1 x47_2).f2) x74_4).f0)) ++ (⟨#[32, 99, 111, 115, 116, 32]⟩ : ByteArray)) ++ t152) ++ (⟨#[32, 105, 109, 112, 111, 114, 116, 32]⟩ : ByteArray)) ++ ((rd_T48 ((rd_T46 l0_1 x47_2).f2) x74_4).f2)) ++ (⟨#[32, 101, 120, 112, 111, 114, 116, 32]⟩ : ByteArray)).size + ((rd_T48 ((rd_T46 l0_1 x47_2).f2) x74_4).f3).size ≤ 9223372036854775807
                             ·rw [if_pos c88] at H
                              have c88b0 := eq_true c88
                              have c88b1 := decide_eq_true c88
                              try have c88b2 := eq_false (Nat.not_lt.2 c88)
                              try have c88b3 : (9223372036854775807 < x3_4.size + 6 + ((rd_T48 ((rd_T46 l0_1 x47_2).f2) x74_4).f0).size + 6 + t152.size + 8 + ((rd_T48 ((rd_T46 l0_1 x47_2).f2) x74_4).f2).size + 8 + ((rd_T48 ((rd_T46 l0_1 x47_2).f2) x74_4).f3).size) = False := by (have h_ := c88; simp only [ByteArray.size_append] at h_; exact eq_false (Nat.not_lt.2 h_))
                              by_cases c89 : ((((((((x3_4 ++ (⟨#[9, 108, 105, 110, 107, 32]⟩ : ByteArray)) ++ ((rd_T48 ((rd_T46 l0_1 x47_2).f2) x74_4).f0)) ++ (⟨#[32, 99, 111, 115, 116, 32]⟩ : ByteArray)) ++ t152) ++ (⟨#[32, 105, 109, 112, 111, 114, 116, 32]⟩ : ByteArray)) ++ ((rd_T48 ((rd_T46 l0_1 x47_2).f2) x74_4).f2)) ++ (⟨#[32, 101, 120, 112, 111, 114, 116, 32]⟩ : ByteArray)) ++ ((rd_T48 ((rd_T46 l0_1 x47_2).f2) x74_4).f3)).size + 2 ≤ 9223372036854775807
                              ·rw [if_pos c89] at H
                               have c89b0 := eq_true c89
                               have c89b1 := decide_eq_true c89
                               try have c89b2 := eq_false (Nat.not_lt.2 c89)
                               try have c89b3 : (9223372036854775807 < x3_4.size + 6 + ((rd_T48 ((rd_T46 l0_1 x47_2).f2) x74_4).f0).size + 6 + t152.size + 8 + ((rd_T48 ((rd_T46 l0_1 x47_2).f2) x74_4).f2).size + 8 + ((rd_T48 ((rd_T46 l0_1 x47_2).f2) x74_4).f3).size + 2) = False := by (have h_ := c89; simp only [ByteArray.size_append] at h_; exact eq_false (Nat.not_lt.2 h_))
                               have H' := Aside0.mk H
                               clear H
                               have p150 : 0 ≤ (x74_4 : Int) := of_decide_eq_true (by first | (with_reducible assumption) | assumption)
                               have q150 : x74_4 < (((rd_T46 l0_1 x47_2).f2).length : Int) := of_decide_eq_true (by first | (with_reducible assumption) | assumption)
                               obtain ⟨ad150, e150, hx150_0, hx150_1, hx150_2, hx150_3, hx150_4⟩ := at_T48 HR145_2.out x74_4 p150 q150
                               cases e150
                               replace hx150_0 := (HB.out.cell (World.block_lt_of_cell? w _ hx150_0)).trans hx150_0
                               replace hx150_1 := (HB.out.cell (World.block_lt_of_cell? w _ hx150_1)).trans hx150_1
                               replace hx150_2 := (HB.out.cell (World.block_lt_of_cell? w _ hx150_2)).trans hx150_2
                               replace hx150_3 := (HB.out.cell (World.block_lt_of_cell? w _ hx150_3)).trans hx150_3
                               replace hx150_4 := (HB.out.cell (World.block_lt_of_cell? w _ hx150_4)).trans hx150_4
                               replace p150 := eq_true p150
                               replace q150 := eq_true q150
                               try go_wp2_with (first | ((with_reducible refine gate_dst (N := 13) rfl ?_); refine bx 13 (cs := #[.string (⟨#[]⟩ : ByteArray), .int .i64 0, .string (⟨#[]⟩ : ByteArray), .string (⟨#[]⟩ : ByteArray), .int .i64 0]) (t := 48) (h := ?_); intro gb151 hg w90 hbox hb; have BK151 := Aside0.mk hbox; have GW151 : Aside0 (w.heap.size ≤ gb151) := bge hg; have GE151 : Aside0 (w.heap.size ≤ gb151) := bge hg; have NB139_151 := bne BK139 hg; have NB151_139 := bnf BK139 hg; have NB146_151 := bne BK146 hg; have NB151_146 := bnf BK146 hg; replace BK139 := bkb BK139 hb; replace BK146 := bkb BK146 hb; replace HB := bst hb; clear hb hbox hg; have hnb91 := NB151_139.out; have hnc91 := NB139_151.out; have hnb92 := NB151_146.out; have hnc92 := NB146_151.out; obtain ⟨hcz93_0, hcz93_1, hcz93_2, hcz93_3, hcz93_4, hfz93_0, hfz93_1, hfz93_2, hfz93_3, hfz93_4⟩ := bc5 BK151))
                               have n0_ : Aside0 ((((((w90.setCell ⟨gb151, 0, none⟩ (.string ((rd_T48 ((rd_T46 l0_1 x47_2).f2) x74_4).f0))).setCell ⟨gb151, 1, none⟩ (.int .i64 ((rd_T48 ((rd_T46 l0_1 x47_2).f2) x74_4).f1))).setCell ⟨gb151, 2, none⟩ (.string ((rd_T48 ((rd_T46 l0_1 x47_2).f2) x74_4).f2))).setCell ⟨gb151, 3, none⟩ (.string ((rd_T48 ((rd_T46 l0_1 x47_2).f2) x74_4).f3))).setCell ⟨gb151, 4, none⟩ (.int .i64 ((rd_T48 ((rd_T46 l0_1 x47_2).f2) x74_4).f4))).heap[gb139]? = some (.cells #[.slice A0_0 l0_0.length c0_0, .slice (some ad145) l0_1.length c0_1] 30 (0, 0))) := ⟨bkq BK139⟩
                               have n1_ : Aside0 ((((((w90.setCell ⟨gb151, 0, none⟩ (.string ((rd_T48 ((rd_T46 l0_1 x47_2).f2) x74_4).f0))).setCell ⟨gb151, 1, none⟩ (.int .i64 ((rd_T48 ((rd_T46 l0_1 x47_2).f2) x74_4).f1))).setCell ⟨gb151, 2, none⟩ (.string ((rd_T48 ((rd_T46 l0_1 x47_2).f2) x74_4).f2))).setCell ⟨gb151, 3, none⟩ (.string ((rd_T48 ((rd_T46 l0_1 x47_2).f2) x74_4).f3))).setCell ⟨gb151, 4, none⟩ (.int .i64 ((rd_T48 ((rd_T46 l0_1 x47_2).f2) x74_4).f4))).heap[gb146]? = some (.cells #[.string ((rd_T46 l0_1 x47_2).f0), .slice A145_1 ((rd_T46 l0_1 x47_2).f1).length c145_1, .slice (some ad150) ((rd_T46 l0_1 x47_2).f2).length c145_2, .slice A145_3 ((rd_T46 l0_1 x47_2).f3).length c145_3, .int .i64 ((rd_T46 l0_1 x47_2).f4)] 46 (0, 0))) := ⟨bkq BK146⟩
                               have n2_ : Aside0 ((((((w90.setCell ⟨gb151, 0, none⟩ (.string ((rd_T48 ((rd_T46 l0_1 x47_2).f2) x74_4).f0))).setCell ⟨gb151, 1, none⟩ (.int .i64 ((rd_T48 ((rd_T46 l0_1 x47_2).f2) x74_4).f1))).setCell ⟨gb151, 2, none⟩ (.string ((rd_T48 ((rd_T46 l0_1 x47_2).f2) x74_4).f2))).setCell ⟨gb151, 3, none⟩ (.string ((rd_T48 ((rd_T46 l0_1 x47_2).f2) x74_4).f3))).setCell ⟨gb151, 4, none⟩ (.int .i64 ((rd_T48 ((rd_T46 l0_1 x47_2).f2) x74_4).f4))).heap[gb151]? = some (.cells #[.string ((rd_T48 ((rd_T46 l0_1 x47_2).f2) x74_4).f0), .int .i64 ((rd_T48 ((rd_T46 l0_1 x47_2).f2) x74_4).f1), .string ((rd_T48 ((rd_T46 l0_1 x47_2).f2) x74_4).f2), .string ((rd_T48 ((rd_T46 l0_1 x47_2).f2) x74_4).f3), .int .i64 ((rd_T48 ((rd_T46 l0_1 x47_2).f2) x74_4).f4)] 48 (0, 0))) := ⟨bkp BK151⟩
                               have n3_ : Aside0 (Below w.heap.size w (((((w90.setCell ⟨gb151, 0, none⟩ (.string ((rd_T48 ((rd_T46 l0_1 x47_2).f2) x74_4).f0))).setCell ⟨gb151, 1, none⟩ (.int .i64 ((rd_T48 ((rd_T46 l0_1 x47_2).f2) x74_4).f1))).setCell ⟨gb151, 2, none⟩ (.string ((rd_T48 ((rd_T46 l0_1 x47_2).f2) x74_4).f2))).setCell ⟨gb151, 3, none⟩ (.string ((rd_T48 ((rd_T46 l0_1 x47_2).f2) x74_4).f3))).setCell ⟨gb151, 4, none⟩ (.int .i64 ((rd_T48 ((rd_T46 l0_1 x47_2).f2) x74_4).f4)))) := ⟨by repeat (first | (with_reducible first | exact HB.out | apply below_alloc | apply pw_below_drewN | apply below_drew1 | refine below_set ?_ GE139.out | refine below_set ?_ GE146.out | refine below_set ?_ GE151.out) | exact HB.out)⟩
                               (try clear BK139)
                               (try clear BK146)
                               (try clear BK151)
                               (try clear HB)
                               generalize (((((w90.setCell ⟨gb151, 0, none⟩ (.string ((rd_T48 ((rd_T46 l0_1 x47_2).f2) x74_4).f0))).setCell ⟨gb151, 1, none⟩ (.int .i64 ((rd_T48 ((rd_T46 l0_1 x47_2).f2) x74_4).f1))).setCell ⟨gb151, 2, none⟩ (.string ((rd_T48 ((rd_T46 l0_1 x47_2).f2) x74_4).f2))).setCell ⟨gb151, 3, none⟩ (.string ((rd_T48 ((rd_T46 l0_1 x47_2).f2) x74_4).f3))).setCell ⟨gb151, 4, none⟩ (.int .i64 ((rd_T48 ((rd_T46 l0_1 x47_2).f2) x74_4).f4))) = w94 at n0_ n1_ n2_ n3_ ⊢
                               have BK139 := n0_
                               have BK146 := n1_
                               have BK151 := n2_
                               have HB := n3_
                               clear n0_ n1_ n2_ n3_
                               replace BK139 := Aside0.mk (blk_drew BK139.out)
                               replace BK146 := Aside0.mk (blk_drew BK146.out)
                               replace BK151 := Aside0.mk (blk_drew BK151.out)
                               replace HB := Aside0.mk (below_drew1 HB.out)
                               refine start_ (n := 11) (S := fun w' => CE5 w' gb151 (.string ((rd_T48 ((rd_T46 l0_1 x47_2).f2) x74_4).f0)) (.int .i64 ((rd_T48 ((rd_T46 l0_1 x47_2).f2) x74_4).f1)) (.string ((rd_T48 ((rd_T46 l0_1 x47_2).f2) x74_4).f2)) (.string ((rd_T48 ((rd_T46 l0_1 x47_2).f2) x74_4).f3)) (.int .i64 ((rd_T48 ((rd_T46 l0_1 x47_2).f2) x74_4).f4))) (ds := []) #[false, false, false, false, false, false, false, false, false, false, false] (by kernel_rfl) rfl rfl (he5 BK151) (fun hHeld => ?_); refine with_tabW maquettelaw07_Text.tab25 maquettelaw07_Text.bits25 (fun HT_ HW_ => ?_)
                               generalize w94.drew = w95 at BK139 BK146 BK151 HB hHeld ⊢
                               refine pu HT_ 0 (some 78) (mk 11 1) ?_
                               refine pu HT_ 1 (some 79) (mk 11 3) ?_
                               refine pu HT_ 2 (some 80) (mk 11 7) ?_
                               refine pu HT_ 6 (some 84) (mk 11 71) ?_
                               refine tk HT_ HW_ 3 (some 81) (mk 11 79) hHeld ?_
                               refine pu HT_ 4 (some 82) (mk 11 95) ?_
                               refine pu HT_ 5 (some 83) (mk 11 127) ?_
                               refine tk HT_ HW_ 7 (some 85) (mk 11 255) hHeld ?_
                               refine on HT_ 8 (some 86) (mk 11 511) fun K hK => ?_
                               refine go1 Tryd.func24 #[.int .i64 ((rd_T48 ((rd_T46 l0_1 x47_2).f2) x74_4).f1)] ?_
                               with_reducible refine (maquettelaw07_digits.calls k4 ((rd_T48 ((rd_T46 l0_1 x47_2).f2) x74_4).f1) t152 _ A54.out).mono ?_
                               rintro e w' ⟨rfl, ⟨nd, rfl⟩⟩
                               refine ⟨_, rfl, ?_⟩
                               refine hK.out _ _ (he5 BK151) (fun hHeld => ?_)
                               clear hK K
                               refine nm (some 86) ?_
                               refine pu HT_ 9 (some 87) (mk 11 1023) ?_
                               refine pu HT_ 10 (some 3) (mk 11 2047) ?_
                               refine done_ (done_of HT_.out (by kernel_rfl)) ?_
                               obtain ⟨hcz96_0, hcz96_1, hcz96_2, hcz96_3, hcz96_4, hfz96_0, hfz96_1, hfz96_2, hfz96_3, hfz96_4⟩ := bc5 BK151
                               try go_wp2
                               go_roundg k4
                               case measure => have := HK1.out; have := HK2.out; have := HK3.out; have := HK4.out; omega
                               case rel => exact ⟨(((((((((x3_4 ++ (⟨#[9, 108, 105, 110, 107, 32]⟩ : ByteArray)) ++ ((rd_T48 ((rd_T46 l0_1 x47_2).f2) x74_4).f0)) ++ (⟨#[32, 99, 111, 115, 116, 32]⟩ : ByteArray)) ++ t152) ++ (⟨#[32, 105, 109, 112, 111, 114, 116, 32]⟩ : ByteArray)) ++ ((rd_T48 ((rd_T46 l0_1 x47_2).f2) x74_4).f2)) ++ (⟨#[32, 101, 120, 112, 111, 114, 116, 32]⟩ : ByteArray)) ++ ((rd_T48 ((rd_T46 l0_1 x47_2).f2) x74_4).f3)) ++ (⟨#[59, 10]⟩ : ByteArray)), (wrap64 (x74_4 + 1)), (by first | rfl | (simp; done) | (simp [*]; done)), (by first | rfl | (simp; done) | (simp [*]; done)), H', ⟨by have := HK1.out; have := HK2.out; have := HK3.out; have := HK4.out; omega⟩, ⟨bkq BK139⟩, ⟨bkq BK146⟩, ⟨by repeat (first | (with_reducible first | exact HB.out | apply below_alloc | apply pw_below_drewN | apply below_drew1 | refine below_set ?_ GE139.out | refine below_set ?_ GE146.out | refine below_set ?_ GE151.out) | exact HB.out)⟩⟩
                              ·rw [if_neg c89] at H
                               exact absurd H (by simp)
                             ·rw [if_neg c88] at H
                              exact absurd H (by simp)
                            ·rw [if_neg c87] at H
                             exact absurd H (by simp)
                          ·rw [if_neg c77] at H
                           exact absurd H (by simp)
                         ·rw [if_neg c76] at H
                          exact absurd H (by simp)
                       ·rw [if_neg c55] at H
                        exact absurd H (by simp)
                      ·rw [if_neg c53] at H
                       exact absurd H (by simp)
                     ·rw [if_neg c52] at H
                      exact absurd H (by simp)
                    ·rw [if_neg c51] at H
                     exact absurd H (by simp)
                   ·rw [if_neg c50] at H
                    exact absurd H (by simp)
                  ·rw [if_neg c49] at H
                   exact absurd H (by simp)
                 ·rw [if_neg c48] at H
                  have c48b0 := decide_eq_false c48
                  clear c48
                  have H' := Aside0.mk H
                  clear H
                  have hnb97 := NB146_139.out
                  have hnc97 := NB139_146.out
                  obtain ⟨hcz98_0, hcz98_1, hcz98_2, hcz98_3, hcz98_4, hfz98_0, hfz98_1, hfz98_2, hfz98_3, hfz98_4⟩ := bc5 BK146
                  go_wp2
                  go_loopg [3, 110] k4 (fun kq v3 v110 w' => ∃ (x3_5 : ByteArray) (x110_5 : Int), v3 = .string x3_5 ∧ v110 = .int .i64 x110_5 ∧ Aside0 (maquettelaw07_Text.l5 kq x3_5 l0_1 (l0_1.length : Int) x47_2 ((rd_T46 l0_1 x47_2).f3) (((rd_T46 l0_1 x47_2).f3).length : Int) x110_5 = some r) ∧ Aside0 (kq ≤ k4) ∧ Aside0 (w'.heap[gb139]? = some (.cells #[(.slice A0_0 l0_0.length c0_0), (.slice (some ad145) l0_1.length c0_1)] 30 (0, 0))) ∧ Aside0 (w'.heap[gb146]? = some (.cells #[.string ((rd_T46 l0_1 x47_2).f0), (.slice A145_1 ((rd_T46 l0_1 x47_2).f1).length c145_1), (.slice A145_2 ((rd_T46 l0_1 x47_2).f2).length c145_2), (.slice A145_3 ((rd_T46 l0_1 x47_2).f3).length c145_3), .int .i64 ((rd_T46 l0_1 x47_2).f4)] 46 (0, 0))) ∧ Aside0 (Below w.heap.size w w'))
                  case atStart => exact ⟨(x3_4), (0), (by first | rfl | (simp; done) | (simp [*]; done)), (by first | rfl | (simp; done) | (simp [*]; done)), H', ⟨Nat.le_refl _⟩, ⟨bkq BK139⟩, ⟨bkq BK146⟩, ⟨by repeat (first | (with_reducible first | exact HB.out | apply below_alloc | apply pw_below_drewN | apply below_drew1 | refine below_set ?_ GE139.out | refine below_set ?_ GE146.out) | exact HB.out)⟩⟩
                  case round =>
                   clear H'
                   try clear c1
                   try clear p1
                   try clear q1
                   try clear hx1
                   try clear c2
                   try clear p2
                   try clear c4
                   try clear c5
                   try clear c6
                   try clear p6
                   try clear c7
                   try clear c8
                   try clear c9
                   try clear c14
                   try clear p15
                   try clear q15
                   try clear hx15
                   try clear c24
                   try clear c48
                   try clear c48b0
                   try clear c49
                   try clear c50
                   try clear c51
                   try clear c52
                   try clear c53
                   try clear c55
                   try clear c56
                   try clear c56b0
                   try clear c56b1
                   try clear c57
                   try clear c57b0
                   try clear c57b1
                   try clear c58
                   try clear p64
                   try clear c66
                   try clear c66b0
                   try clear c66b1
                   try clear c66b2
                   try clear c67
                   try clear c67b0
                   try clear c67b1
                   try clear c67b2
                   try clear c68
                   try clear c68b0
                   try clear c68b1
                   try clear c68b2
                   try clear c70
                   try clear c71
                   try clear c76
                   try clear c76b0
                   try clear c76b1
                   try clear c76b2
                   try clear c77
                   try clear c77b0
                   try clear c77b1
                   try clear c77b2
                   try clear c78
                   try clear c78b0
                   try clear c78b1
                   try clear c79
                   try clear c79b0
                   try clear c79b1
                   try clear c79b2
                   try clear c81
                   try clear c82
                   try clear c87
                   try clear c87b0
                   try clear c87b1
                   try clear c87b2
                   try clear c88
                   try clear c88b0
                   try clear c88b1
                   try clear c88b2
                   try clear c89
                   try clear c89b0
                   try clear c89b1
                   try clear c89b2
                   try clear c91
                   try clear c92
                   try clear c97
                   try clear hcz65_0 hcz65_1 hcz65_2 hcz65_3 hcz65_4 hfz65_0 hfz65_1 hfz65_2 hfz65_3 hfz65_4
                   try clear hcz72_0 hcz72_1 hcz72_2 hcz72_3 hcz72_4 hfz72_0 hfz72_1 hfz72_2 hfz72_3 hfz72_4
                   try clear hcz75_0 hcz75_1 hcz75_2 hcz75_3 hcz75_4 hfz75_0 hfz75_1 hfz75_2 hfz75_3 hfz75_4
                   try clear hcz83_0 hcz83_1 hcz83_2 hcz83_3 hcz83_4 hfz83_0 hfz83_1 hfz83_2 hfz83_3 hfz83_4
                   try clear hcz86_0 hcz86_1 hcz86_2 hcz86_3 hcz86_4 hfz86_0 hfz86_1 hfz86_2 hfz86_3 hfz86_4
                   try clear hcz93_0 hcz93_1 hcz93_2 hcz93_3 hcz93_4 hfz93_0 hfz93_1 hfz93_2 hfz93_3 hfz93_4
                   try clear hcz96_0 hcz96_1 hcz96_2 hcz96_3 hcz96_4 hfz96_0 hfz96_1 hfz96_2 hfz96_3 hfz96_4
                   try clear hcz98_0 hcz98_1 hcz98_2 hcz98_3 hcz98_4 hfz98_0 hfz98_1 hfz98_2 hfz98_3 hfz98_4
                   try clear hx150_0
                   try clear hx150_1
                   try clear hx150_2
                   try clear hx150_3
                   try clear hx150_4
                   try clear p150
                   try clear q150
                   obtain ⟨x3_5, x110_5, rfl, rfl, HA, HK5, BK139, BK146, HB⟩ := hrel
                   cases gk with
                   | zero => exact absurd HA.out (by simp [maquettelaw07_Text.l5])
                   | succ k5 =>
                    have H := HA.out
                    clear HA
                    simp only [maquettelaw07_Text.l5] at H
                    by_cases c99 : x110_5 < (((rd_T46 l0_1 x47_2).f3).length : Int)
                    ·rw [if_pos c99] at H
                     have c99b0 := decide_eq_true c99
                     clear c99
                     by_cases c100 : 0 ≤ x110_5
                     ·rw [if_pos c100] at H
                      have c100b0 := decide_eq_true c100
                      clear c100
                      by_cases c101 : x110_5 < (((rd_T46 l0_1 x47_2).f3).length : Int)
                      ·rw [if_pos c101] at H
                       have c101b0 := decide_eq_true c101
                       clear c101
                       by_cases c102 : x3_5.size + 8 ≤ 9223372036854775807
                       ·rw [if_pos c102] at H
                        have c102b0 := eq_true c102
                        have c102b1 := decide_eq_true c102
                        try have c102b2 := eq_false (Nat.not_lt.2 c102)
                        replace H := Option.bind_eq_some_iff.mp H
                        obtain ⟨t155, A1030, H⟩ := H
                        replace H : (if (x3_5 ++ (⟨#[9, 115, 116, 97, 116, 105, 99, 32]⟩ : ByteArray)).size + t155.size ≤ 9223372036854775807 then (if ((x3_5 ++ (⟨#[9, 115, 116, 97, 116, 105, 99, 32]⟩ : ByteArray)) ++ t155).size + 5 ≤ 9223372036854775807 then (if (((x3_5 ++ (⟨#[9, 115, 116, 97, 116, 105, 99, 32]⟩ : ByteArray)) ++ t155) ++ (⟨#[32, 118, 105, 97, 32]⟩ : ByteArray)).size + ((rd_T60 ((rd_T46 l0_1 x47_2).f3) x110_5).f1).size ≤ 9223372036854775807 then (if ((((x3_5 ++ (⟨#[9, 115, 116, 97, 116, 105, 99, 32]⟩ : ByteArray)) ++ t155) ++ (⟨#[32, 118, 105, 97, 32]⟩ : ByteArray)) ++ ((rd_T60 ((rd_T46 l0_1 x47_2).f3) x110_5).f1)).size + 2 ≤ 9223372036854775807 then (maquettelaw07_Text.l5 k5 (((((x3_5 ++ (⟨#[9, 115, 116, 97, 116, 105, 99, 32]⟩ : ByteArray)) ++ t155) ++ (⟨#[32, 118, 105, 97, 32]⟩ : ByteArray)) ++ ((rd_T60 ((rd_T46 l0_1 x47_2).f3) x110_5).f1)) ++ (⟨#[59, 10]⟩ : ByteArray)) l0_1 (l0_1.length : Int) x47_2 ((rd_T46 l0_1 x47_2).f3) (((rd_T46 l0_1 x47_2).f3).length : Int) (wrap64 (x110_5 + 1))) else (none)) else (none)) else (none)) else (none)) = some r := H
                        have A103 := Aside0.mk A1030
                        clear A1030
                        by_cases c104 : (x3_5 ++ (⟨#[9, 115, 116, 97, 116, 105, 99, 32]⟩ : ByteArray)).size + t155.size ≤ 9223372036854775807
                        ·rw [if_pos c104] at H
                         have c104b0 := eq_true c104
                         have c104b1 := decide_eq_true c104
                         try have c104b2 := eq_false (Nat.not_lt.2 c104)
                         try have c104b3 : (9223372036854775807 < x3_5.size + 8 + t155.size) = False := by (have h_ := c104; simp only [ByteArray.size_append] at h_; exact eq_false (Nat.not_lt.2 h_))
                         by_cases c105 : ((x3_5 ++ (⟨#[9, 115, 116, 97, 116, 105, 99, 32]⟩ : ByteArray)) ++ t155).size + 5 ≤ 9223372036854775807
                         ·rw [if_pos c105] at H
                          have c105b0 := eq_true c105
                          have c105b1 := decide_eq_true c105
                          try have c105b2 := eq_false (Nat.not_lt.2 c105)
                          try have c105b3 : (9223372036854775807 < x3_5.size + 8 + t155.size + 5) = False := by (have h_ := c105; simp only [ByteArray.size_append] at h_; exact eq_false (Nat.not_lt.2 h_))
                          by_cases c106 : (((x3_5 ++ (⟨#[9, 115, 116, 97, 116, 105, 99, 32]⟩ : ByteArray)) ++ t155) ++ (⟨#[32, 118, 105, 97, 32]⟩ : ByteArray)).size + ((rd_T60 ((rd_T46 l0_1 x47_2).f3) x110_5).f1).size ≤ 9223372036854775807
                          ·rw [if_pos c106] at H
                           have c106b0 := eq_true c106
                           have c106b1 := decide_eq_true c106
                           try have c106b2 := eq_false (Nat.not_lt.2 c106)
                           try have c106b3 : (9223372036854775807 < x3_5.size + 8 + t155.size + 5 + ((rd_T60 ((rd_T46 l0_1 x47_2).f3) x110_5).f1).size) = False := by (have h_ := c106; simp only [ByteArray.size_append] at h_; exact eq_false (Nat.not_lt.2 h_))
                           by_cases c107 : ((((x3_5 ++ (⟨#[9, 115, 116, 97, 116, 105, 99, 32]⟩ : ByteArray)) ++ t155) ++ (⟨#[32, 118, 105, 97, 32]⟩ : ByteArray)) ++ ((rd_T60 ((rd_T46 l0_1 x47_2).f3) x110_5).f1)).size + 2 ≤ 9223372036854775807
                           ·rw [if_pos c107] at H
                            have c107b0 := eq_true c107
                            have c107b1 := decide_eq_true c107
                            try have c107b2 := eq_false (Nat.not_lt.2 c107)
                            try have c107b3 : (9223372036854775807 < x3_5.size + 8 + t155.size + 5 + ((rd_T60 ((rd_T46 l0_1 x47_2).f3) x110_5).f1).size + 2) = False := by (have h_ := c107; simp only [ByteArray.size_append] at h_; exact eq_false (Nat.not_lt.2 h_))
                            have H' := Aside0.mk H
                            clear H
                            have p153 : 0 ≤ (x110_5 : Int) := of_decide_eq_true (by first | (with_reducible assumption) | assumption)
                            have q153 : x110_5 < (((rd_T46 l0_1 x47_2).f3).length : Int) := of_decide_eq_true (by first | (with_reducible assumption) | assumption)
                            obtain ⟨ad153, e153, hx153_0, hx153_1, hx153_2, hx153_3⟩ := at_T60 HR145_3.out x110_5 p153 q153
                            cases e153
                            replace hx153_0 := (HB.out.cell (World.block_lt_of_cell? w _ hx153_0)).trans hx153_0
                            replace hx153_1 := (HB.out.cell (World.block_lt_of_cell? w _ hx153_1)).trans hx153_1
                            replace hx153_2 := (HB.out.cell (World.block_lt_of_cell? w _ hx153_2)).trans hx153_2
                            replace hx153_3 := (HB.out.cell (World.block_lt_of_cell? w _ hx153_3)).trans hx153_3
                            replace p153 := eq_true p153
                            replace q153 := eq_true q153
                            try go_wp2_with (first | ((with_reducible refine gate_dst (N := 15) rfl ?_); refine bx 15 (cs := #[.int .u32 0, .int .i64 0, .string (⟨#[]⟩ : ByteArray), .int .i64 0]) (t := 60) (h := ?_); intro gb154 hg w108 hbox hb; have BK154 := Aside0.mk hbox; have GW154 : Aside0 (w.heap.size ≤ gb154) := bge hg; have GE154 : Aside0 (w.heap.size ≤ gb154) := bge hg; have NB139_154 := bne BK139 hg; have NB154_139 := bnf BK139 hg; have NB146_154 := bne BK146 hg; have NB154_146 := bnf BK146 hg; replace BK139 := bkb BK139 hb; replace BK146 := bkb BK146 hb; replace HB := bst hb; clear hb hbox hg; have hnb109 := NB154_139.out; have hnc109 := NB139_154.out; have hnb110 := NB154_146.out; have hnc110 := NB146_154.out; obtain ⟨hcz111_0, hcz111_1, hcz111_2, hcz111_3, hfz111_0, hfz111_1, hfz111_2, hfz111_3⟩ := bc4 BK154))
                            have n0_ : Aside0 (((((w108.setCell ⟨gb154, 0, none⟩ (.int .u32 ((rd_T60 ((rd_T46 l0_1 x47_2).f3) x110_5).f0.f0))).setCell ⟨gb154, 1, none⟩ (.int .i64 ((rd_T60 ((rd_T46 l0_1 x47_2).f3) x110_5).f0.f1))).setCell ⟨gb154, 2, none⟩ (.string ((rd_T60 ((rd_T46 l0_1 x47_2).f3) x110_5).f1))).setCell ⟨gb154, 3, none⟩ (.int .i64 ((rd_T60 ((rd_T46 l0_1 x47_2).f3) x110_5).f2))).heap[gb139]? = some (.cells #[.slice A0_0 l0_0.length c0_0, .slice (some ad145) l0_1.length c0_1] 30 (0, 0))) := ⟨bkq BK139⟩
                            have n1_ : Aside0 (((((w108.setCell ⟨gb154, 0, none⟩ (.int .u32 ((rd_T60 ((rd_T46 l0_1 x47_2).f3) x110_5).f0.f0))).setCell ⟨gb154, 1, none⟩ (.int .i64 ((rd_T60 ((rd_T46 l0_1 x47_2).f3) x110_5).f0.f1))).setCell ⟨gb154, 2, none⟩ (.string ((rd_T60 ((rd_T46 l0_1 x47_2).f3) x110_5).f1))).setCell ⟨gb154, 3, none⟩ (.int .i64 ((rd_T60 ((rd_T46 l0_1 x47_2).f3) x110_5).f2))).heap[gb146]? = some (.cells #[.string ((rd_T46 l0_1 x47_2).f0), .slice A145_1 ((rd_T46 l0_1 x47_2).f1).length c145_1, .slice A145_2 ((rd_T46 l0_1 x47_2).f2).length c145_2, .slice (some ad153) ((rd_T46 l0_1 x47_2).f3).length c145_3, .int .i64 ((rd_T46 l0_1 x47_2).f4)] 46 (0, 0))) := ⟨bkq BK146⟩
                            have n2_ : Aside0 (((((w108.setCell ⟨gb154, 0, none⟩ (.int .u32 ((rd_T60 ((rd_T46 l0_1 x47_2).f3) x110_5).f0.f0))).setCell ⟨gb154, 1, none⟩ (.int .i64 ((rd_T60 ((rd_T46 l0_1 x47_2).f3) x110_5).f0.f1))).setCell ⟨gb154, 2, none⟩ (.string ((rd_T60 ((rd_T46 l0_1 x47_2).f3) x110_5).f1))).setCell ⟨gb154, 3, none⟩ (.int .i64 ((rd_T60 ((rd_T46 l0_1 x47_2).f3) x110_5).f2))).heap[gb154]? = some (.cells #[.int .u32 ((rd_T60 ((rd_T46 l0_1 x47_2).f3) x110_5).f0.f0), .int .i64 ((rd_T60 ((rd_T46 l0_1 x47_2).f3) x110_5).f0.f1), .string ((rd_T60 ((rd_T46 l0_1 x47_2).f3) x110_5).f1), .int .i64 ((rd_T60 ((rd_T46 l0_1 x47_2).f3) x110_5).f2)] 60 (0, 0))) := ⟨bkp BK154⟩
                            have n3_ : Aside0 (Below w.heap.size w ((((w108.setCell ⟨gb154, 0, none⟩ (.int .u32 ((rd_T60 ((rd_T46 l0_1 x47_2).f3) x110_5).f0.f0))).setCell ⟨gb154, 1, none⟩ (.int .i64 ((rd_T60 ((rd_T46 l0_1 x47_2).f3) x110_5).f0.f1))).setCell ⟨gb154, 2, none⟩ (.string ((rd_T60 ((rd_T46 l0_1 x47_2).f3) x110_5).f1))).setCell ⟨gb154, 3, none⟩ (.int .i64 ((rd_T60 ((rd_T46 l0_1 x47_2).f3) x110_5).f2)))) := ⟨by repeat (first | (with_reducible first | exact HB.out | apply below_alloc | apply pw_below_drewN | apply below_drew1 | refine below_set ?_ GE139.out | refine below_set ?_ GE146.out | refine below_set ?_ GE154.out) | exact HB.out)⟩
                            (try clear BK139)
                            (try clear BK146)
                            (try clear BK154)
                            (try clear HB)
                            generalize ((((w108.setCell ⟨gb154, 0, none⟩ (.int .u32 ((rd_T60 ((rd_T46 l0_1 x47_2).f3) x110_5).f0.f0))).setCell ⟨gb154, 1, none⟩ (.int .i64 ((rd_T60 ((rd_T46 l0_1 x47_2).f3) x110_5).f0.f1))).setCell ⟨gb154, 2, none⟩ (.string ((rd_T60 ((rd_T46 l0_1 x47_2).f3) x110_5).f1))).setCell ⟨gb154, 3, none⟩ (.int .i64 ((rd_T60 ((rd_T46 l0_1 x47_2).f3) x110_5).f2))) = w112 at n0_ n1_ n2_ n3_ ⊢
                            have BK139 := n0_
                            have BK146 := n1_
                            have BK154 := n2_
                            have HB := n3_
                            clear n0_ n1_ n2_ n3_
                            replace BK139 := Aside0.mk (blk_drew BK139.out)
                            replace BK146 := Aside0.mk (blk_drew BK146.out)
                            replace BK154 := Aside0.mk (blk_drew BK154.out)
                            replace HB := Aside0.mk (below_drew1 HB.out)
                            refine start_ (n := 12) (S := fun w' => CE4 w' gb154 (.int .u32 ((rd_T60 ((rd_T46 l0_1 x47_2).f3) x110_5).f0.f0)) (.int .i64 ((rd_T60 ((rd_T46 l0_1 x47_2).f3) x110_5).f0.f1)) (.string ((rd_T60 ((rd_T46 l0_1 x47_2).f3) x110_5).f1)) (.int .i64 ((rd_T60 ((rd_T46 l0_1 x47_2).f3) x110_5).f2))) (ds := []) #[false, false, false, false, false, false, false, false, false, false, false, false] (by kernel_rfl) rfl rfl (he4 BK154) (fun hHeld => ?_); refine with_tabW maquettelaw07_Text.tab35 maquettelaw07_Text.bits35 (fun HT_ HW_ => ?_)
                            generalize w112.drew = w113 at BK139 BK146 BK154 HB hHeld ⊢
                            refine pu HT_ 0 (some 114) (mk 12 1) ?_
                            refine pu HT_ 1 (some 115) (mk 12 3) ?_
                            refine pu HT_ 2 (some 116) (mk 12 7) ?_
                            refine pu HT_ 7 (some 121) (mk 12 135) ?_
                            refine tk HT_ HW_ 3 (some 117) (mk 12 143) hHeld ?_
                            refine tk HT_ HW_ 8 (some 122) (mk 12 399) hHeld ?_
                            refine on HT_ 4 (some 118) (mk 12 415) fun K hK => ?_
                            refine go1 Tryd.func23 #[.agg #[.int .u32 ((rd_T60 ((rd_T46 l0_1 x47_2).f3) x110_5).f0.f0), .int .i64 ((rd_T60 ((rd_T46 l0_1 x47_2).f3) x110_5).f0.f1)]] ?_
                            with_reducible refine (prefix_Text.calls k5 ((rd_T60 ((rd_T46 l0_1 x47_2).f3) x110_5).f0.f0) ((rd_T60 ((rd_T46 l0_1 x47_2).f3) x110_5).f0.f1) t155 _ A103.out (Go.Proofs.YtjcopneljfcfoaaDoor.Inv.ivb hInv)).mono ?_
                            rintro e w114 ⟨rfl, hb⟩
                            refine ⟨_, rfl, ?_⟩
                            replace BK139 := bkb BK139 hb
                            replace BK146 := bkb BK146 hb
                            replace BK154 := bkb BK154 hb
                            replace HB := bst hb
                            (try clear hb)
                            (try clear hb2)
                            (try clear hk)
                            (try clear hi)
                            refine hK.out _ _ (he4 BK154) (fun hHeld => ?_)
                            clear hK K
                            refine nm (some 118) ?_
                            refine pu HT_ 5 (some 119) (mk 12 447) ?_
                            refine pu HT_ 6 (some 120) (mk 12 511) ?_
                            refine pu HT_ 9 (some 123) (mk 12 1023) ?_
                            refine pu HT_ 10 (some 124) (mk 12 2047) ?_
                            refine pu HT_ 11 (some 3) (mk 12 4095) ?_
                            refine done_ (done_of HT_.out (by kernel_rfl)) ?_
                            try go_wp2
                            go_roundg k5
                            case measure => have := HK1.out; have := HK2.out; have := HK3.out; have := HK4.out; have := HK5.out; omega
                            case rel => exact ⟨(((((x3_5 ++ (⟨#[9, 115, 116, 97, 116, 105, 99, 32]⟩ : ByteArray)) ++ t155) ++ (⟨#[32, 118, 105, 97, 32]⟩ : ByteArray)) ++ ((rd_T60 ((rd_T46 l0_1 x47_2).f3) x110_5).f1)) ++ (⟨#[59, 10]⟩ : ByteArray)), (wrap64 (x110_5 + 1)), (by first | rfl | (simp; done) | (simp [*]; done)), (by first | rfl | (simp; done) | (simp [*]; done)), H', ⟨by have := HK1.out; have := HK2.out; have := HK3.out; have := HK4.out; have := HK5.out; omega⟩, ⟨bkq BK139⟩, ⟨bkq BK146⟩, ⟨by repeat (first | (with_reducible first | exact HB.out | apply below_alloc | apply pw_below_drewN | apply below_drew1 | refine below_set ?_ GE139.out | refine below_set ?_ GE146.out | refine below_set ?_ GE154.out) | exact HB.out)⟩⟩
                           ·rw [if_neg c107] at H
                            exact absurd H (by simp)
                          ·rw [if_neg c106] at H
                           exact absurd H (by simp)
                         ·rw [if_neg c105] at H
                          exact absurd H (by simp)
                        ·rw [if_neg c104] at H
                         exact absurd H (by simp)
                       ·rw [if_neg c102] at H
                        exact absurd H (by simp)
                      ·rw [if_neg c101] at H
                       exact absurd H (by simp)
                     ·rw [if_neg c100] at H
                      exact absurd H (by simp)
                    ·rw [if_neg c99] at H
                     have c99b0 := decide_eq_false c99
                     clear c99
                     by_cases c115 : x3_5.size + 2 ≤ 9223372036854775807
                     ·rw [if_pos c115] at H
                      have c115b0 := eq_true c115
                      have c115b1 := decide_eq_true c115
                      try have c115b2 := eq_false (Nat.not_lt.2 c115)
                      have H' := Aside0.mk H
                      clear H
                      go_wp2
                      go_roundg k5
                      case measure => have := HK1.out; have := HK2.out; have := HK3.out; have := HK4.out; have := HK5.out; omega
                      case rel => exact ⟨(x3_5 ++ (⟨#[125, 10]⟩ : ByteArray)), (wrap64 (x47_2 + 1)), (by first | rfl | (simp; done) | (simp [*]; done)), (by first | rfl | (simp; done) | (simp [*]; done)), H', ⟨by have := HK1.out; have := HK2.out; have := HK3.out; have := HK4.out; have := HK5.out; omega⟩, ⟨bkq BK139⟩, ⟨by repeat (first | (with_reducible first | exact HB.out | apply below_alloc | apply pw_below_drewN | apply below_drew1 | refine below_set ?_ GE139.out | refine below_set ?_ GE146.out) | exact HB.out)⟩⟩
                     ·rw [if_neg c115] at H
                      exact absurd H (by simp)
           ·rw [if_neg c30] at H
            exact absurd H (by simp)
          ·rw [if_neg c29] at H
           exact absurd H (by simp)
         ·rw [if_neg c28] at H
          exact absurd H (by simp)
        ·rw [if_neg c27] at H
         exact absurd H (by simp)
       ·rw [if_neg c26] at H
        exact absurd H (by simp)
      ·rw [if_neg c25] at H
       have c25b0 := decide_eq_false c25
       clear c25
       obtain rfl := Option.some.inj H
       go_wp2
       go_ret
       exact ⟨by first | rfl | (simp [errW_none, errW_some] <;> rfl) | (simp [*, errW_none, errW_some] <;> rfl), by repeat (first | (with_reducible first | exact HB.out | apply below_alloc | apply pw_below_drewN | apply below_drew1 | refine below_set ?_ GE139.out) | exact HB.out)⟩

end Go.Proofs.YtjcopneljfcfoaaDoor.PRaw
