-- Written by wip/xprint.py of this work: the printer of the kit, with contracts of this work beside it, shortened.
import Derived.Test.YtbclogifkifaaaaDoorShort
import Derived.Test.YtbclogifkifaaaaDoorPPrex0
import Derived.Test.YtbclogifkifaaaaDoorPPrex12
namespace Go.Proofs.YtbclogifkifaaaaDoor.PPre
open Go.RowKit Go.Proofs.YtbclogifkifaaaaDoor.Short Go.Proofs.YtbclogifkifaaaaDoorW.PrintWords Go.Proofs.YtbclogifkifaaaaDoorW.PrintLast Go.Proofs.YtbclogifkifaaaaDoorW.PrintMore
attribute [local go_sem] max2_int min2_int max_two min_two max_three min_three max_four min_four   -- for this text's walks alone
set_option linter.unusedVariables false
set_option linter.unusedSimpArgs false

/-! ### maquettelaw05_text: function 5 -/
def maquettelaw05_text.f (k : Nat) (a0_0 : Int) (a0_1 : Int) : Option (ByteArray) := (maquettelaw05_digits.f k (wrap64 (a0_0 / 16777216))).bind fun t133 => (if t133.size + 1 ≤ 9223372036854775807 then ((maquettelaw05_digits.f k (wrap64 (Go.bits .and .u32 (a0_0 / 65536) 255))).bind fun t134 => (if (t133 ++ (⟨#[46]⟩ : ByteArray)).size + t134.size ≤ 9223372036854775807 then (if ((t133 ++ (⟨#[46]⟩ : ByteArray)) ++ t134).size + 1 ≤ 9223372036854775807 then ((maquettelaw05_digits.f k (wrap64 (Go.bits .and .u32 (a0_0 / 256) 255))).bind fun t135 => (if (((t133 ++ (⟨#[46]⟩ : ByteArray)) ++ t134) ++ (⟨#[46]⟩ : ByteArray)).size + t135.size ≤ 9223372036854775807 then (if ((((t133 ++ (⟨#[46]⟩ : ByteArray)) ++ t134) ++ (⟨#[46]⟩ : ByteArray)) ++ t135).size + 1 ≤ 9223372036854775807 then ((maquettelaw05_digits.f k (wrap64 (Go.bits .and .u32 a0_0 255))).bind fun t136 => (if (((((t133 ++ (⟨#[46]⟩ : ByteArray)) ++ t134) ++ (⟨#[46]⟩ : ByteArray)) ++ t135) ++ (⟨#[46]⟩ : ByteArray)).size + t136.size ≤ 9223372036854775807 then (if ((((((t133 ++ (⟨#[46]⟩ : ByteArray)) ++ t134) ++ (⟨#[46]⟩ : ByteArray)) ++ t135) ++ (⟨#[46]⟩ : ByteArray)) ++ t136).size + 1 ≤ 9223372036854775807 then ((maquettelaw05_digits.f k a0_1).bind fun t137 => (if (((((((t133 ++ (⟨#[46]⟩ : ByteArray)) ++ t134) ++ (⟨#[46]⟩ : ByteArray)) ++ t135) ++ (⟨#[46]⟩ : ByteArray)) ++ t136) ++ (⟨#[47]⟩ : ByteArray)).size + t137.size ≤ 9223372036854775807 then (some ((((((((t133 ++ (⟨#[46]⟩ : ByteArray)) ++ t134) ++ (⟨#[46]⟩ : ByteArray)) ++ t135) ++ (⟨#[46]⟩ : ByteArray)) ++ t136) ++ (⟨#[47]⟩ : ByteArray)) ++ t137)) else (none))) else (none)) else (none))) else (none)) else (none))) else (none)) else (none))) else (none))
theorem maquettelaw05_text.mono : ∀ a0 a1 k, LeO (maquettelaw05_text.f k a0 a1) (maquettelaw05_text.f (k + 1) a0 a1) := by
 intro a0 a1 k
 unfold maquettelaw05_text.f
 repeat' first
   | (with_reducible exact maquettelaw05_digits.mono _ _)
   | (with_reducible exact LeO.refl _)
   | (with_reducible exact LeO.none _)
   | (with_reducible refine LeO.ite ?_ ?_)
   | (with_reducible refine LeO.bind ?_ (fun _ => ?_))
   | exact maquettelaw05_digits.mono _ _
   | exact LeO.none _
   | refine LeO.ite ?_ ?_
   | refine LeO.bind ?_ (fun _ => ?_)
def maquettelaw05_text.T1 : Bool × List (List Nat × List Nat) := (true, [([], []), ([0], [0]), ([1], [1]), ([2], [2]), ([3], [3]), ([4], [4]), ([], []), ([6], [6]), ([7], [7]), ([8], [8]), ([9], [9]), ([10, 4], [10]), ([5, 11], [5, 11]), ([12], [12]), ([], []), ([14], [14]), ([15], [15]), ([16], [16]), ([17], [17]), ([18, 11], [18]), ([13, 19], [13, 19]), ([20], [20]), ([], []), ([22], [22]), ([23], [23]), ([24], [24]), ([25, 19], [25]), ([21, 26], [21, 26]), ([27], [27]), ([], []), ([29], [29]), ([30, 26], [30]), ([28, 31], [28, 31]), ([32, 31, 0, 1, 2, 3, 4, 5, 6, 7, 8, 9, 10, 11, 12, 13, 14, 15, 16, 17, 18, 19, 20, 21, 22, 23, 24, 25, 26, 27, 28, 29, 30, 31, 32], [32])])
def maquettelaw05_text.B1 : List Nat := [0, 1, 3, 7, 15, 31, 0, 64, 192, 448, 960, 2015, 4095, 8191, 0, 16384, 49152, 114688, 245760, 511967, 1048575, 2097151, 0, 4194304, 12582912, 29360128, 63950815, 134217727, 268435455, 0, 536870912, 1741672415, 4294967295, 8589934591]
theorem maquettelaw05_text.tab1 : rtab .any (opsOf Tryd.f5 1) = maquettelaw05_text.T1 := by kernel_rfl
theorem maquettelaw05_text.bits1 : waitsOk maquettelaw05_text.T1.2 maquettelaw05_text.B1 = true := by kernel_rfl
set_option maxHeartbeats 8000000 in
set_option maxRecDepth 100000 in
theorem maquettelaw05_text.calls (k : Nat) (a0_0 : Int) (a0_1 : Int) (r : ByteArray) (w : World) (h : maquettelaw05_text.f k a0_0 a0_1 = some r) :
  Calls Tryd.prog 5 #[.agg #[.int .u32 a0_0, .int .i64 a0_1]] w fun e w' => e = .returned (.string r) ∧ Below w.heap.size w w' := by
 have hu27 := Tryd.underlying27
 have HB := Aside0.mk (Below.refl w.heap.size w)
 have H : ((maquettelaw05_digits.f k (wrap64 (a0_0 / 16777216))).bind fun t133 => (if t133.size + 1 ≤ 9223372036854775807 then ((maquettelaw05_digits.f k (wrap64 (Go.bits .and .u32 (a0_0 / 65536) 255))).bind fun t134 => (if (t133 ++ (⟨#[46]⟩ : ByteArray)).size + t134.size ≤ 9223372036854775807 then (if ((t133 ++ (⟨#[46]⟩ : ByteArray)) ++ t134).size + 1 ≤ 9223372036854775807 then ((maquettelaw05_digits.f k (wrap64 (Go.bits .and .u32 (a0_0 / 256) 255))).bind fun t135 => (if (((t133 ++ (⟨#[46]⟩ : ByteArray)) ++ t134) ++ (⟨#[46]⟩ : ByteArray)).size + t135.size ≤ 9223372036854775807 then (if ((((t133 ++ (⟨#[46]⟩ : ByteArray)) ++ t134) ++ (⟨#[46]⟩ : ByteArray)) ++ t135).size + 1 ≤ 9223372036854775807 then ((maquettelaw05_digits.f k (wrap64 (Go.bits .and .u32 a0_0 255))).bind fun t136 => (if (((((t133 ++ (⟨#[46]⟩ : ByteArray)) ++ t134) ++ (⟨#[46]⟩ : ByteArray)) ++ t135) ++ (⟨#[46]⟩ : ByteArray)).size + t136.size ≤ 9223372036854775807 then (if ((((((t133 ++ (⟨#[46]⟩ : ByteArray)) ++ t134) ++ (⟨#[46]⟩ : ByteArray)) ++ t135) ++ (⟨#[46]⟩ : ByteArray)) ++ t136).size + 1 ≤ 9223372036854775807 then ((maquettelaw05_digits.f k a0_1).bind fun t137 => (if (((((((t133 ++ (⟨#[46]⟩ : ByteArray)) ++ t134) ++ (⟨#[46]⟩ : ByteArray)) ++ t135) ++ (⟨#[46]⟩ : ByteArray)) ++ t136) ++ (⟨#[47]⟩ : ByteArray)).size + t137.size ≤ 9223372036854775807 then (some ((((((((t133 ++ (⟨#[46]⟩ : ByteArray)) ++ t134) ++ (⟨#[46]⟩ : ByteArray)) ++ t135) ++ (⟨#[46]⟩ : ByteArray)) ++ t136) ++ (⟨#[47]⟩ : ByteArray)) ++ t137)) else (none))) else (none)) else (none))) else (none)) else (none))) else (none)) else (none))) else (none))) = some r := h
 clear h
 replace H := Option.bind_eq_some_iff.mp H
 obtain ⟨t133, A20, H⟩ := H
 replace H : (if t133.size + 1 ≤ 9223372036854775807 then ((maquettelaw05_digits.f k (wrap64 (Go.bits .and .u32 (a0_0 / 65536) 255))).bind fun t134 => (if (t133 ++ (⟨#[46]⟩ : ByteArray)).size + t134.size ≤ 9223372036854775807 then (if ((t133 ++ (⟨#[46]⟩ : ByteArray)) ++ t134).size + 1 ≤ 9223372036854775807 then ((maquettelaw05_digits.f k (wrap64 (Go.bits .and .u32 (a0_0 / 256) 255))).bind fun t135 => (if (((t133 ++ (⟨#[46]⟩ : ByteArray)) ++ t134) ++ (⟨#[46]⟩ : ByteArray)).size + t135.size ≤ 9223372036854775807 then (if ((((t133 ++ (⟨#[46]⟩ : ByteArray)) ++ t134) ++ (⟨#[46]⟩ : ByteArray)) ++ t135).size + 1 ≤ 9223372036854775807 then ((maquettelaw05_digits.f k (wrap64 (Go.bits .and .u32 a0_0 255))).bind fun t136 => (if (((((t133 ++ (⟨#[46]⟩ : ByteArray)) ++ t134) ++ (⟨#[46]⟩ : ByteArray)) ++ t135) ++ (⟨#[46]⟩ : ByteArray)).size + t136.size ≤ 9223372036854775807 then (if ((((((t133 ++ (⟨#[46]⟩ : ByteArray)) ++ t134) ++ (⟨#[46]⟩ : ByteArray)) ++ t135) ++ (⟨#[46]⟩ : ByteArray)) ++ t136).size + 1 ≤ 9223372036854775807 then ((maquettelaw05_digits.f k a0_1).bind fun t137 => (if (((((((t133 ++ (⟨#[46]⟩ : ByteArray)) ++ t134) ++ (⟨#[46]⟩ : ByteArray)) ++ t135) ++ (⟨#[46]⟩ : ByteArray)) ++ t136) ++ (⟨#[47]⟩ : ByteArray)).size + t137.size ≤ 9223372036854775807 then (some ((((((((t133 ++ (⟨#[46]⟩ : ByteArray)) ++ t134) ++ (⟨#[46]⟩ : ByteArray)) ++ t135) ++ (⟨#[46]⟩ : ByteArray)) ++ t136) ++ (⟨#[47]⟩ : ByteArray)) ++ t137)) else (none))) else (none)) else (none))) else (none)) else (none))) else (none)) else (none))) else (none)) = some r := H
 have A2 := Aside0.mk A20
 clear A20
 by_cases c3 : t133.size + 1 ≤ 9223372036854775807
 ·rw [if_pos c3] at H
  have c3b0 := eq_true c3
  have c3b1 := decide_eq_true c3
  try have c3b2 := eq_false (Nat.not_lt.2 c3)
  replace H := Option.bind_eq_some_iff.mp H
  obtain ⟨t134, A40, H⟩ := H
  replace H : (if (t133 ++ (⟨#[46]⟩ : ByteArray)).size + t134.size ≤ 9223372036854775807 then (if ((t133 ++ (⟨#[46]⟩ : ByteArray)) ++ t134).size + 1 ≤ 9223372036854775807 then ((maquettelaw05_digits.f k (wrap64 (Go.bits .and .u32 (a0_0 / 256) 255))).bind fun t135 => (if (((t133 ++ (⟨#[46]⟩ : ByteArray)) ++ t134) ++ (⟨#[46]⟩ : ByteArray)).size + t135.size ≤ 9223372036854775807 then (if ((((t133 ++ (⟨#[46]⟩ : ByteArray)) ++ t134) ++ (⟨#[46]⟩ : ByteArray)) ++ t135).size + 1 ≤ 9223372036854775807 then ((maquettelaw05_digits.f k (wrap64 (Go.bits .and .u32 a0_0 255))).bind fun t136 => (if (((((t133 ++ (⟨#[46]⟩ : ByteArray)) ++ t134) ++ (⟨#[46]⟩ : ByteArray)) ++ t135) ++ (⟨#[46]⟩ : ByteArray)).size + t136.size ≤ 9223372036854775807 then (if ((((((t133 ++ (⟨#[46]⟩ : ByteArray)) ++ t134) ++ (⟨#[46]⟩ : ByteArray)) ++ t135) ++ (⟨#[46]⟩ : ByteArray)) ++ t136).size + 1 ≤ 9223372036854775807 then ((maquettelaw05_digits.f k a0_1).bind fun t137 => (if (((((((t133 ++ (⟨#[46]⟩ : ByteArray)) ++ t134) ++ (⟨#[46]⟩ : ByteArray)) ++ t135) ++ (⟨#[46]⟩ : ByteArray)) ++ t136) ++ (⟨#[47]⟩ : ByteArray)).size + t137.size ≤ 9223372036854775807 then (some ((((((((t133 ++ (⟨#[46]⟩ : ByteArray)) ++ t134) ++ (⟨#[46]⟩ : ByteArray)) ++ t135) ++ (⟨#[46]⟩ : ByteArray)) ++ t136) ++ (⟨#[47]⟩ : ByteArray)) ++ t137)) else (none))) else (none)) else (none))) else (none)) else (none))) else (none)) else (none)) = some r := H
  have A4 := Aside0.mk A40
  clear A40
  by_cases c5 : (t133 ++ (⟨#[46]⟩ : ByteArray)).size + t134.size ≤ 9223372036854775807
  ·rw [if_pos c5] at H
   have c5b0 := eq_true c5
   have c5b1 := decide_eq_true c5
   try have c5b2 := eq_false (Nat.not_lt.2 c5)
   try have c5b3 : (9223372036854775807 < t133.size + 1 + t134.size) = False := by (have h_ := c5; simp only [ByteArray.size_append] at h_; exact eq_false (Nat.not_lt.2 h_))
   by_cases c6 : ((t133 ++ (⟨#[46]⟩ : ByteArray)) ++ t134).size + 1 ≤ 9223372036854775807
   ·rw [if_pos c6] at H
    have c6b0 := eq_true c6
    have c6b1 := decide_eq_true c6
    try have c6b2 := eq_false (Nat.not_lt.2 c6)
    try have c6b3 : (9223372036854775807 < t133.size + 1 + t134.size + 1) = False := by (have h_ := c6; simp only [ByteArray.size_append] at h_; exact eq_false (Nat.not_lt.2 h_))
    replace H := Option.bind_eq_some_iff.mp H
    obtain ⟨t135, A70, H⟩ := H
    replace H : (if (((t133 ++ (⟨#[46]⟩ : ByteArray)) ++ t134) ++ (⟨#[46]⟩ : ByteArray)).size + t135.size ≤ 9223372036854775807 then (if ((((t133 ++ (⟨#[46]⟩ : ByteArray)) ++ t134) ++ (⟨#[46]⟩ : ByteArray)) ++ t135).size + 1 ≤ 9223372036854775807 then ((maquettelaw05_digits.f k (wrap64 (Go.bits .and .u32 a0_0 255))).bind fun t136 => (if (((((t133 ++ (⟨#[46]⟩ : ByteArray)) ++ t134) ++ (⟨#[46]⟩ : ByteArray)) ++ t135) ++ (⟨#[46]⟩ : ByteArray)).size + t136.size ≤ 9223372036854775807 then (if ((((((t133 ++ (⟨#[46]⟩ : ByteArray)) ++ t134) ++ (⟨#[46]⟩ : ByteArray)) ++ t135) ++ (⟨#[46]⟩ : ByteArray)) ++ t136).size + 1 ≤ 9223372036854775807 then ((maquettelaw05_digits.f k a0_1).bind fun t137 => (if (((((((t133 ++ (⟨#[46]⟩ : ByteArray)) ++ t134) ++ (⟨#[46]⟩ : ByteArray)) ++ t135) ++ (⟨#[46]⟩ : ByteArray)) ++ t136) ++ (⟨#[47]⟩ : ByteArray)).size + t137.size ≤ 9223372036854775807 then (some ((((((((t133 ++ (⟨#[46]⟩ : ByteArray)) ++ t134) ++ (⟨#[46]⟩ : ByteArray)) ++ t135) ++ (⟨#[46]⟩ : ByteArray)) ++ t136) ++ (⟨#[47]⟩ : ByteArray)) ++ t137)) else (none))) else (none)) else (none))) else (none)) else (none)) = some r := H
    have A7 := Aside0.mk A70
    clear A70
    by_cases c8 : (((t133 ++ (⟨#[46]⟩ : ByteArray)) ++ t134) ++ (⟨#[46]⟩ : ByteArray)).size + t135.size ≤ 9223372036854775807
    ·rw [if_pos c8] at H
     have c8b0 := eq_true c8
     have c8b1 := decide_eq_true c8
     try have c8b2 := eq_false (Nat.not_lt.2 c8)
     try have c8b3 : (9223372036854775807 < t133.size + 1 + t134.size + 1 + t135.size) = False := by (have h_ := c8; simp only [ByteArray.size_append] at h_; exact eq_false (Nat.not_lt.2 h_))
     by_cases c9 : ((((t133 ++ (⟨#[46]⟩ : ByteArray)) ++ t134) ++ (⟨#[46]⟩ : ByteArray)) ++ t135).size + 1 ≤ 9223372036854775807
     ·rw [if_pos c9] at H
      have c9b0 := eq_true c9
      have c9b1 := decide_eq_true c9
      try have c9b2 := eq_false (Nat.not_lt.2 c9)
      try have c9b3 : (9223372036854775807 < t133.size + 1 + t134.size + 1 + t135.size + 1) = False := by (have h_ := c9; simp only [ByteArray.size_append] at h_; exact eq_false (Nat.not_lt.2 h_))
      replace H := Option.bind_eq_some_iff.mp H
      obtain ⟨t136, A100, H⟩ := H
      replace H : (if (((((t133 ++ (⟨#[46]⟩ : ByteArray)) ++ t134) ++ (⟨#[46]⟩ : ByteArray)) ++ t135) ++ (⟨#[46]⟩ : ByteArray)).size + t136.size ≤ 9223372036854775807 then (if ((((((t133 ++ (⟨#[46]⟩ : ByteArray)) ++ t134) ++ (⟨#[46]⟩ : ByteArray)) ++ t135) ++ (⟨#[46]⟩ : ByteArray)) ++ t136).size + 1 ≤ 9223372036854775807 then ((maquettelaw05_digits.f k a0_1).bind fun t137 => (if (((((((t133 ++ (⟨#[46]⟩ : ByteArray)) ++ t134) ++ (⟨#[46]⟩ : ByteArray)) ++ t135) ++ (⟨#[46]⟩ : ByteArray)) ++ t136) ++ (⟨#[47]⟩ : ByteArray)).size + t137.size ≤ 9223372036854775807 then (some ((((((((t133 ++ (⟨#[46]⟩ : ByteArray)) ++ t134) ++ (⟨#[46]⟩ : ByteArray)) ++ t135) ++ (⟨#[46]⟩ : ByteArray)) ++ t136) ++ (⟨#[47]⟩ : ByteArray)) ++ t137)) else (none))) else (none)) else (none)) = some r := H
      have A10 := Aside0.mk A100
      clear A100
      by_cases c11 : (((((t133 ++ (⟨#[46]⟩ : ByteArray)) ++ t134) ++ (⟨#[46]⟩ : ByteArray)) ++ t135) ++ (⟨#[46]⟩ : ByteArray)).size + t136.size ≤ 9223372036854775807
      ·rw [if_pos c11] at H
       have c11b0 := eq_true c11
       have c11b1 := decide_eq_true c11
       try have c11b2 := eq_false (Nat.not_lt.2 c11)
       try have c11b3 : (9223372036854775807 < t133.size + 1 + t134.size + 1 + t135.size + 1 + t136.size) = False := by (have h_ := c11; simp only [ByteArray.size_append] at h_; exact eq_false (Nat.not_lt.2 h_))
       by_cases c12 : ((((((t133 ++ (⟨#[46]⟩ : ByteArray)) ++ t134) ++ (⟨#[46]⟩ : ByteArray)) ++ t135) ++ (⟨#[46]⟩ : ByteArray)) ++ t136).size + 1 ≤ 9223372036854775807
       ·rw [if_pos c12] at H
        have c12b0 := eq_true c12
        have c12b1 := decide_eq_true c12
        try have c12b2 := eq_false (Nat.not_lt.2 c12)
        try have c12b3 : (9223372036854775807 < t133.size + 1 + t134.size + 1 + t135.size + 1 + t136.size + 1) = False := by (have h_ := c12; simp only [ByteArray.size_append] at h_; exact eq_false (Nat.not_lt.2 h_))
        replace H := Option.bind_eq_some_iff.mp H
        obtain ⟨t137, A130, H⟩ := H
        replace H : (if (((((((t133 ++ (⟨#[46]⟩ : ByteArray)) ++ t134) ++ (⟨#[46]⟩ : ByteArray)) ++ t135) ++ (⟨#[46]⟩ : ByteArray)) ++ t136) ++ (⟨#[47]⟩ : ByteArray)).size + t137.size ≤ 9223372036854775807 then (some ((((((((t133 ++ (⟨#[46]⟩ : ByteArray)) ++ t134) ++ (⟨#[46]⟩ : ByteArray)) ++ t135) ++ (⟨#[46]⟩ : ByteArray)) ++ t136) ++ (⟨#[47]⟩ : ByteArray)) ++ t137)) else (none)) = some r := H
        have A13 := Aside0.mk A130
        clear A130
        by_cases c14 : (((((((t133 ++ (⟨#[46]⟩ : ByteArray)) ++ t134) ++ (⟨#[46]⟩ : ByteArray)) ++ t135) ++ (⟨#[46]⟩ : ByteArray)) ++ t136) ++ (⟨#[47]⟩ : ByteArray)).size + t137.size ≤ 9223372036854775807
        ·rw [if_pos c14] at H
         have c14b0 := eq_true c14
         have c14b1 := decide_eq_true c14
         try have c14b2 := eq_false (Nat.not_lt.2 c14)
         try have c14b3 : (9223372036854775807 < t133.size + 1 + t134.size + 1 + t135.size + 1 + t136.size + 1 + t137.size) = False := by (have h_ := c14; simp only [ByteArray.size_append] at h_; exact eq_false (Nat.not_lt.2 h_))
         obtain rfl := Option.some.inj H
         go_enter Tryd.func5, Tryd.ntmps5
         try go_wp2_with (first | ((with_reducible refine gate_dst (N := 1) rfl ?_); refine bx 1 (cs := #[.int .u32 a0_0, .int .i64 a0_1]) (t := 27) (h := ?_); intro gb132 hg w15 hbox hb; have BK132 := Aside0.mk hbox; have GW132 : Aside0 (w.heap.size ≤ gb132) := bge hg; have GE132 : Aside0 (w.heap.size ≤ gb132) := bge hg; replace HB := bst hb; clear hb hbox hg))
         replace BK132 := Aside0.mk (blk_drew BK132.out)
         replace HB := Aside0.mk (below_drew1 HB.out)
         refine start_ (n := 34) (S := fun w' => CE2 w' gb132 (.int .u32 a0_0) (.int .i64 a0_1)) (ds := []) #[false, false, false, false, false, false, false, false, false, false, false, false, false, false, false, false, false, false, false, false, false, false, false, false, false, false, false, false, false, false, false, false, false, false] (by kernel_rfl) rfl rfl (he2 BK132) (fun hHeld => ?_); refine with_tabW maquettelaw05_text.tab1 maquettelaw05_text.bits1 (fun HT_ HW_ => ?_)
         generalize w15.drew = w16 at BK132 HB hHeld ⊢
         refine pu HT_ 0 (some 3) (mk 34 1) ?_
         refine pu HT_ 6 (some 9) (mk 34 65) ?_
         refine pu HT_ 14 (some 17) (mk 34 16449) ?_
         refine pu HT_ 22 (some 25) (mk 34 4210753) ?_
         refine pu HT_ 29 (some 32) (mk 34 541081665) ?_
         refine tk HT_ HW_ 1 (some 4) (mk 34 541081667) hHeld ?_
         refine pu HT_ 2 (some 5) (mk 34 541081671) ?_
         refine pu HT_ 3 (some 6) (mk 34 541081679) ?_
         refine tk HT_ HW_ 7 (some 10) (mk 34 541081807) hHeld ?_
         refine pu HT_ 8 (some 11) (mk 34 541082063) ?_
         refine pu HT_ 9 (some 12) (mk 34 541082575) ?_
         refine pu HT_ 10 (some 13) (mk 34 541083599) ?_
         refine tk HT_ HW_ 15 (some 18) (mk 34 541116367) hHeld ?_
         refine pu HT_ 16 (some 19) (mk 34 541181903) ?_
         refine pu HT_ 17 (some 20) (mk 34 541312975) ?_
         refine pu HT_ 18 (some 21) (mk 34 541575119) ?_
         refine tk HT_ HW_ 23 (some 26) (mk 34 549963727) hHeld ?_
         refine pu HT_ 24 (some 27) (mk 34 566740943) ?_
         refine pu HT_ 25 (some 28) (mk 34 600295375) ?_
         refine tk HT_ HW_ 30 (some 33) (mk 34 1674037199) hHeld ?_
         refine on HT_ 4 (some 7) (mk 34 1674037215) fun K hK => ?_
         refine go1 Tryd.func10 #[.int .i64 (wrap64 (a0_0 / 16777216))] ?_
         with_reducible refine (maquettelaw05_digits.calls k (wrap64 (a0_0 / 16777216)) t133 _ A2.out).mono ?_
         rintro e w' ⟨rfl, ⟨nd, rfl⟩⟩
         refine ⟨_, rfl, ?_⟩
         refine hK.out _ _ (he2 BK132) (fun hHeld => ?_)
         clear hK K
         refine nm (some 7) ?_
         refine pu HT_ 5 (some 8) (mk 34 1674037247) ?_
         refine on HT_ 11 (some 14) (mk 34 1674039295) fun K hK => ?_
         refine go1 Tryd.func10 #[.int .i64 (wrap64 (Go.bits .and .u32 (a0_0 / 65536) 255))] ?_
         with_reducible refine (maquettelaw05_digits.calls k (wrap64 (Go.bits .and .u32 (a0_0 / 65536) 255)) t134 _ A4.out).mono ?_
         rintro e w' ⟨rfl, ⟨nd, rfl⟩⟩
         refine ⟨_, rfl, ?_⟩
         refine hK.out _ _ (he2 BK132) (fun hHeld => ?_)
         clear hK K
         refine nm (some 14) ?_
         refine pu HT_ 12 (some 15) (mk 34 1674043391) ?_
         refine pu HT_ 13 (some 16) (mk 34 1674051583) ?_
         refine on HT_ 19 (some 22) (mk 34 1674575871) fun K hK => ?_
         refine go1 Tryd.func10 #[.int .i64 (wrap64 (Go.bits .and .u32 (a0_0 / 256) 255))] ?_
         with_reducible refine (maquettelaw05_digits.calls k (wrap64 (Go.bits .and .u32 (a0_0 / 256) 255)) t135 _ A7.out).mono ?_
         rintro e w' ⟨rfl, ⟨nd, rfl⟩⟩
         refine ⟨_, rfl, ?_⟩
         refine hK.out _ _ (he2 BK132) (fun hHeld => ?_)
         clear hK K
         refine nm (some 22) ?_
         refine pu HT_ 20 (some 23) (mk 34 1675624447) ?_
         refine pu HT_ 21 (some 24) (mk 34 1677721599) ?_
         refine on HT_ 26 (some 29) (mk 34 1744830463) fun K hK => ?_
         refine go1 Tryd.func10 #[.int .i64 (wrap64 (Go.bits .and .u32 a0_0 255))] ?_
         with_reducible refine (maquettelaw05_digits.calls k (wrap64 (Go.bits .and .u32 a0_0 255)) t136 _ A10.out).mono ?_
         rintro e w' ⟨rfl, ⟨nd, rfl⟩⟩
         refine ⟨_, rfl, ?_⟩
         refine hK.out _ _ (he2 BK132) (fun hHeld => ?_)
         clear hK K
         refine nm (some 29) ?_
         refine pu HT_ 27 (some 30) (mk 34 1879048191) ?_
         refine pu HT_ 28 (some 31) (mk 34 2147483647) ?_
         refine on HT_ 31 (some 34) (mk 34 4294967295) fun K hK => ?_
         refine go1 Tryd.func10 #[.int .i64 a0_1] ?_
         with_reducible refine (maquettelaw05_digits.calls k a0_1 t137 _ A13.out).mono ?_
         rintro e w' ⟨rfl, ⟨nd, rfl⟩⟩
         refine ⟨_, rfl, ?_⟩
         refine hK.out _ _ (he2 BK132) (fun hHeld => ?_)
         clear hK K
         refine nm (some 34) ?_
         refine pu HT_ 32 (some 35) (mk 34 8589934591) ?_
         refine pu HT_ 33 (some 2) (mk 34 17179869183) ?_
         refine done_ (done_of HT_.out (by kernel_rfl)) ?_
         try go_wp2
         go_ret
         exact ⟨by first | rfl | (simp [errW_none, errW_some] <;> rfl) | (simp [*, errW_none, errW_some] <;> rfl), by repeat (first | (with_reducible first | exact HB.out | apply below_alloc | apply pw_below_drewN | apply below_drew1 | refine below_set ?_ GE132.out) | exact HB.out)⟩
        ·rw [if_neg c14] at H
         exact absurd H (by simp)
       ·rw [if_neg c12] at H
        exact absurd H (by simp)
      ·rw [if_neg c11] at H
       exact absurd H (by simp)
     ·rw [if_neg c9] at H
      exact absurd H (by simp)
    ·rw [if_neg c8] at H
     exact absurd H (by simp)
   ·rw [if_neg c6] at H
    exact absurd H (by simp)
  ·rw [if_neg c5] at H
   exact absurd H (by simp)
 ·rw [if_neg c3] at H
  exact absurd H (by simp)

end Go.Proofs.YtbclogifkifaaaaDoor.PPre
