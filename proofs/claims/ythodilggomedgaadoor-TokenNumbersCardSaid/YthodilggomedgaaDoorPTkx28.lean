-- Written by wip/xprint.py of this work: the printer of the kit, with contracts of this work beside it, shortened.
import Derived.Test.YthodilggomedgaaDoorShort
import Derived.Test.YthodilggomedgaaDoorPTkx0
import Derived.Test.YthodilggomedgaaDoorPTkx16
import Derived.Test.YthodilggomedgaaDoorPTkx17
import Derived.Test.YthodilggomedgaaDoorJ5
namespace Go.Proofs.YthodilggomedgaaDoor.PTk
open Go.RowKit Go.Proofs.YthodilggomedgaaDoor.Short Go.Proofs.YthodilggomedgaaDoorW.PrintWords Go.Proofs.YthodilggomedgaaDoorW.PrintLast Go.Proofs.YthodilggomedgaaDoorW.PrintMore
attribute [local go_sem] max2_int min2_int max_two min_two max_three min_three max_four min_four   -- for this text's walks alone
set_option linter.unusedVariables false
set_option linter.unusedSimpArgs false

/-! ### maquettelaw06_TokenNumbers: function 7 -/
mutual
def maquettelaw06_TokenNumbers.l0 : Nat → Int → Int → ByteArray → Int → Option (Bool)
 | 0, _, _, _, _ => none
 | k + 1, x0, x1, x5, x6 => if x6 > 0 then (if 0 ≤ (Int.tmod x6 10) then (if (Int.tmod x6 10) ≤ (wrap64 ((Int.tmod x6 10) + 1)) then (if (wrap64 ((Int.tmod x6 10) + 1)) ≤ 10 then (if ((⟨#[48, 49, 50, 51, 52, 53, 54, 55, 56, 57]⟩ : ByteArray).extract ((Int.tmod x6 10) : Int).toNat ((wrap64 ((Int.tmod x6 10) + 1)) : Int).toNat).size + x5.size ≤ 9223372036854775807 then (maquettelaw06_TokenNumbers.l0 k x0 x1 (((⟨#[48, 49, 50, 51, 52, 53, 54, 55, 56, 57]⟩ : ByteArray).extract ((Int.tmod x6 10) : Int).toNat ((wrap64 ((Int.tmod x6 10) + 1)) : Int).toNat) ++ x5) (wrap64 (Int.tdiv x6 10))) else (none)) else (none)) else (none)) else (none)) else (if x5.toList = ([] : List UInt8) then (if 0 ≤ (Int.tmod x6 10) then (if (Int.tmod x6 10) ≤ (wrap64 ((Int.tmod x6 10) + 1)) then (if (wrap64 ((Int.tmod x6 10) + 1)) ≤ 10 then (if ((⟨#[48, 49, 50, 51, 52, 53, 54, 55, 56, 57]⟩ : ByteArray).extract ((Int.tmod x6 10) : Int).toNat ((wrap64 ((Int.tmod x6 10) + 1)) : Int).toNat).size + x5.size ≤ 9223372036854775807 then (maquettelaw06_TokenNumbers.l0 k x0 x1 (((⟨#[48, 49, 50, 51, 52, 53, 54, 55, 56, 57]⟩ : ByteArray).extract ((Int.tmod x6 10) : Int).toNat ((wrap64 ((Int.tmod x6 10) + 1)) : Int).toNat) ++ x5) (wrap64 (Int.tdiv x6 10))) else (none)) else (none)) else (none)) else (none)) else (if (Int.tmod x1 4) = 3 then (if 1 + x5.size ≤ 9223372036854775807 then (maquettelaw06_TokenNumbers.j1 k x0 x1 ((⟨#[48]⟩ : ByteArray) ++ x5)) else (none)) else (maquettelaw06_TokenNumbers.j1 k x0 x1 x5)))
def maquettelaw06_TokenNumbers.j1 : Nat → Int → Int → ByteArray → Option (Bool)
 | 0, _, _, _ => none
 | k + 1, x0, x1, x7 => (token_Cut.f k x7).bind fun bt241 => (if x0 > 999999 then (maquettelaw06_TokenNumbers.j2 k x0 x7 bt241.1 bt241.2 true) else (maquettelaw06_TokenNumbers.j2 k x0 x7 bt241.1 bt241.2 ((Int.tmod x1 4) == 3)))
def maquettelaw06_TokenNumbers.j2 : Nat → Int → ByteArray → List (S33) → Option Int → Bool → Option (Bool)
 | 0, _, _, _, _, _ => none
 | k + 1, x0, x7, x8, x9, x47 => if x47 = true then ((api_Number.f x9).bind fun t245 => (if t245 = 1 then ((api_Place.f x9).bind fun t246 => (if t246 = 0 then (some ((x8.length : Int) == 0)) else (some false))) else (some false))) else (if x9.isNone = true then (if (x8.length : Int) = 2 then (if 0 < (x8.length : Int) then (if ((rd_T33 x8 0).f0) = 2 then (if ((rd_T33 x8 0).f2) = (wrap64 (x0)) then (some (((rd_T33 x8 0).f1).toList == x7.toList)) else (some false)) else (some false)) else (none)) else (some false)) else (some false))
end
def maquettelaw06_TokenNumbers.f (k : Nat) (a0 : Int) (a1 : Int) : Option (Bool) := (maquettelaw06_awake.f k).bind fun t240 => (if t240 = true then (maquettelaw06_TokenNumbers.l0 k a0 a1 (⟨#[]⟩ : ByteArray) (wrap64 (a0))) else (some false))
theorem maquettelaw06_TokenNumbers.mono_l : ∀ k, (∀ y0 y1 y2 y3, LeO (maquettelaw06_TokenNumbers.l0 k y0 y1 y2 y3) (maquettelaw06_TokenNumbers.l0 (k + 1) y0 y1 y2 y3)) ∧ (∀ y0 y1 y2, LeO (maquettelaw06_TokenNumbers.j1 k y0 y1 y2) (maquettelaw06_TokenNumbers.j1 (k + 1) y0 y1 y2)) ∧ (∀ y0 y1 y2 y3 y4, LeO (maquettelaw06_TokenNumbers.j2 k y0 y1 y2 y3 y4) (maquettelaw06_TokenNumbers.j2 (k + 1) y0 y1 y2 y3 y4))
 | 0 => ⟨fun _ _ _ _ r h => by simp [maquettelaw06_TokenNumbers.l0] at h, fun _ _ _ r h => by simp [maquettelaw06_TokenNumbers.j1] at h, fun _ _ _ _ _ r h => by simp [maquettelaw06_TokenNumbers.j2] at h⟩
 | k + 1 => by
  obtain ⟨ih0, ih1, ih2⟩ := maquettelaw06_TokenNumbers.mono_l k
  refine ⟨?_, ?_, ?_⟩<;> intros <;> (first | unfold maquettelaw06_TokenNumbers.l0 | unfold maquettelaw06_TokenNumbers.j1 | unfold maquettelaw06_TokenNumbers.j2) <;> repeat' first
   | (with_reducible exact ih0 _ _ _ _)
   | (with_reducible exact ih1 _ _ _)
   | (with_reducible exact ih2 _ _ _ _ _)
   | (with_reducible exact maquettelaw06_awake.mono _)
   | (with_reducible exact token_Cut.mono _ _)
   | (with_reducible exact LeO.refl _)
   | (with_reducible exact LeO.none _)
   | (with_reducible refine LeO.ite ?_ ?_)
   | (with_reducible refine LeO.bind ?_ (fun _ => ?_))
   | exact ih0 _ _ _ _
   | exact ih1 _ _ _
   | exact ih2 _ _ _ _ _
   | exact maquettelaw06_awake.mono _
   | exact token_Cut.mono _ _
   | exact LeO.none _
   | refine LeO.ite ?_ ?_
   | refine LeO.bind ?_ (fun _ => ?_)
theorem maquettelaw06_TokenNumbers.mono : ∀ a0 a1 k, LeO (maquettelaw06_TokenNumbers.f k a0 a1) (maquettelaw06_TokenNumbers.f (k + 1) a0 a1) := by
 intro a0 a1 k
 obtain ⟨ih0, ih1, ih2⟩ := maquettelaw06_TokenNumbers.mono_l k
 unfold maquettelaw06_TokenNumbers.f
 repeat' first
   | (with_reducible exact ih0 _ _ _ _)
   | (with_reducible exact ih1 _ _ _)
   | (with_reducible exact ih2 _ _ _ _ _)
   | (with_reducible exact maquettelaw06_awake.mono _)
   | (with_reducible exact token_Cut.mono _ _)
   | (with_reducible exact LeO.refl _)
   | (with_reducible exact LeO.none _)
   | (with_reducible refine LeO.ite ?_ ?_)
   | (with_reducible refine LeO.bind ?_ (fun _ => ?_))
   | exact ih0 _ _ _ _
   | exact ih1 _ _ _
   | exact ih2 _ _ _ _ _
   | exact maquettelaw06_awake.mono _
   | exact token_Cut.mono _ _
   | exact LeO.none _
   | refine LeO.ite ?_ ?_
   | refine LeO.bind ?_ (fun _ => ?_)
set_option maxHeartbeats 8000000 in
set_option maxRecDepth 100000 in
theorem maquettelaw06_TokenNumbers.calls (k : Nat) (a0 : Int) (a1 : Int) (r : Bool) (w : World) (h : maquettelaw06_TokenNumbers.f k a0 a1 = some r) (hInv : Go.Proofs.YthodilggomedgaaDoor.InvE.Inv w) :
  Calls Tryd.prog 7 #[.int .u32 a0, .int .u8 a1] w fun e w' => e = .returned (.bool r) ∧ Below w.heap.size w w' := by
 have hu25 := Tryd.underlying25
 have HB := Aside0.mk (Below.refl w.heap.size w)
 have H : ((maquettelaw06_awake.f k).bind fun t240 => (if t240 = true then (maquettelaw06_TokenNumbers.l0 k a0 a1 (⟨#[]⟩ : ByteArray) (wrap64 (a0))) else (some false))) = some r := h
 clear h
 replace H := Option.bind_eq_some_iff.mp H
 obtain ⟨t240, A30, H⟩ := H
 replace H : (if t240 = true then (maquettelaw06_TokenNumbers.l0 k a0 a1 (⟨#[]⟩ : ByteArray) (wrap64 (a0))) else (some false)) = some r := H
 have A3 := Aside0.mk A30
 clear A30
 by_cases c4 : t240 = true
 ·subst c4
  have H1 : (maquettelaw06_TokenNumbers.l0 k a0 a1 (⟨#[]⟩ : ByteArray) (wrap64 (a0))) = some r := by rw [if_pos rfl] at H; exact H
  clear H
  have H := H1
  clear H1
  have H' := Aside0.mk H
  clear H
  go_enter Tryd.func7, Tryd.ntmps7
  go_wp2_with (first | ((with_reducible refine gate_dst (N := 10) rfl ?_); refine gl (some 10) Tryd.func8 #[] ?_; (with_reducible refine (maquettelaw06_awake.calls k  true _ A3.out (Go.Proofs.YthodilggomedgaaDoor.InvE.ivb hInv)).mono ?_); rintro e w5 ⟨rfl, hb⟩; refine ⟨_, rfl, ?_⟩; replace HB := bst hb; (try clear hb); (try clear hb2); (try clear hk); (try clear hi)))
  go_loopg [5, 6] k (fun kq v5 v6 w' => ∃ (x5_1 : ByteArray) (x6_1 : Int), v5 = .string x5_1 ∧ v6 = .int .i64 x6_1 ∧ Aside0 (maquettelaw06_TokenNumbers.l0 kq a0 a1 x5_1 x6_1 = some r) ∧ Aside0 (kq ≤ k) ∧ Aside0 (Below w.heap.size w w'))
  case atStart => exact ⟨((⟨#[]⟩ : ByteArray)), (wrap64 (a0)), (by first | rfl | (simp; done) | (simp [*]; done)), (by first | rfl | (simp; done) | (simp [*]; done)), H', ⟨Nat.le_refl _⟩, ⟨by repeat (first | (with_reducible first | exact HB.out | apply below_alloc | apply pw_below_drewN | apply below_drew1) | exact HB.out)⟩⟩
  case round =>
   clear H'
   try clear p2
   try clear c4
   obtain ⟨x5_1, x6_1, rfl, rfl, HA, HK1, HB⟩ := hrel
   cases gk with
   | zero => exact absurd HA.out (by simp [maquettelaw06_TokenNumbers.l0])
   | succ k1 =>
    have H := HA.out
    clear HA
    simp only [maquettelaw06_TokenNumbers.l0] at H
    by_cases c6 : x6_1 > 0
    ·rw [if_pos c6] at H
     have c6b0 : decide (0 < x6_1) = true := decide_eq_true c6
     clear c6
     obtain ⟨ji7, hji7⟩ : ∃ j_ : Int, (Int.tmod x6_1 10) = j_ := ⟨_, rfl⟩
     replace H : (if 0 ≤ (ji7) then (if (ji7) ≤ (wrap64 ((ji7) + 1)) then (if (wrap64 ((ji7) + 1)) ≤ 10 then (if ((⟨#[48, 49, 50, 51, 52, 53, 54, 55, 56, 57]⟩ : ByteArray).extract ((ji7) : Int).toNat ((wrap64 ((ji7) + 1)) : Int).toNat).size + x5_1.size ≤ 9223372036854775807 then (maquettelaw06_TokenNumbers.l0 k1 a0 a1 (((⟨#[48, 49, 50, 51, 52, 53, 54, 55, 56, 57]⟩ : ByteArray).extract ((ji7) : Int).toNat ((wrap64 ((ji7) + 1)) : Int).toNat) ++ x5_1) (wrap64 (Int.tdiv x6_1 10))) else (none)) else (none)) else (none)) else (none)) = some r := by first | (rw [hji7] at H; exact H) | (simp only [hji7] at H ⊢; exact H)
     by_cases c8 : 0 ≤ (ji7)
     ·rw [if_pos c8] at H
      have c8b0 := eq_true c8
      have c8b1 := decide_eq_true c8
      clear c8
      by_cases c9 : (ji7) ≤ (wrap64 ((ji7) + 1))
      ·rw [if_pos c9] at H
       have c9b0 := eq_true c9
       have c9b1 := decide_eq_true c9
       by_cases c10 : (wrap64 ((ji7) + 1)) ≤ 10
       ·rw [if_pos c10] at H
        have c10b0 := eq_true c10
        have c10b1 := decide_eq_true c10
        by_cases c11 : ((⟨#[48, 49, 50, 51, 52, 53, 54, 55, 56, 57]⟩ : ByteArray).extract ((ji7) : Int).toNat ((wrap64 ((ji7) + 1)) : Int).toNat).size + x5_1.size ≤ 9223372036854775807
        ·rw [if_pos c11] at H
         have c11b0 := eq_true c11
         have c11b1 := decide_eq_true c11
         try have c11b2 := eq_false (Nat.not_lt.2 c11)
         have H' := Aside0.mk H
         clear H
         go_wp2
         go_roundg k1
         case measure => have := HK1.out; omega
         case rel => exact ⟨(((⟨#[48, 49, 50, 51, 52, 53, 54, 55, 56, 57]⟩ : ByteArray).extract ((ji7) : Int).toNat ((wrap64 ((ji7) + 1)) : Int).toNat) ++ x5_1), (wrap64 (Int.tdiv x6_1 10)), (by first | rfl | (simp; done) | (simp only [← hji7] <;> (first | rfl | simp)) | (simp [*]; done)), (by first | rfl | (simp; done) | (simp [*]; done)), (by first | exact H' | (rw [hji7]; exact H')), ⟨by have := HK1.out; omega⟩, ⟨by repeat (first | (with_reducible first | exact HB.out | apply below_alloc | apply pw_below_drewN | apply below_drew1) | exact HB.out)⟩⟩
        ·rw [if_neg c11] at H
         exact absurd H (by simp)
       ·rw [if_neg c10] at H
        exact absurd H (by simp)
      ·rw [if_neg c9] at H
       exact absurd H (by simp)
     ·rw [if_neg c8] at H
      exact absurd H (by simp)
    ·rw [if_neg c6] at H
     have c6b0 : decide (0 < x6_1) = false := decide_eq_false c6
     clear c6
     by_cases c12 : x5_1.toList = ([] : List UInt8)
     ·rw [if_pos c12] at H
      have c12b0 : (x5_1.toList == ([] : List UInt8)) = true := beq_iff_eq.mpr c12
      have c12b1 : (x5_1.toList != ([] : List UInt8)) = false := bne_eq_false_iff_eq.mpr c12
      clear c12
      obtain ⟨ji13, hji13⟩ : ∃ j_ : Int, (Int.tmod x6_1 10) = j_ := ⟨_, rfl⟩
      replace H : (if 0 ≤ (ji13) then (if (ji13) ≤ (wrap64 ((ji13) + 1)) then (if (wrap64 ((ji13) + 1)) ≤ 10 then (if ((⟨#[48, 49, 50, 51, 52, 53, 54, 55, 56, 57]⟩ : ByteArray).extract ((ji13) : Int).toNat ((wrap64 ((ji13) + 1)) : Int).toNat).size + x5_1.size ≤ 9223372036854775807 then (maquettelaw06_TokenNumbers.l0 k1 a0 a1 (((⟨#[48, 49, 50, 51, 52, 53, 54, 55, 56, 57]⟩ : ByteArray).extract ((ji13) : Int).toNat ((wrap64 ((ji13) + 1)) : Int).toNat) ++ x5_1) (wrap64 (Int.tdiv x6_1 10))) else (none)) else (none)) else (none)) else (none)) = some r := by first | (rw [hji13] at H; exact H) | (simp only [hji13] at H ⊢; exact H)
      by_cases c14 : 0 ≤ (ji13)
      ·rw [if_pos c14] at H
       have c14b0 := eq_true c14
       have c14b1 := decide_eq_true c14
       clear c14
       by_cases c15 : (ji13) ≤ (wrap64 ((ji13) + 1))
       ·rw [if_pos c15] at H
        have c15b0 := eq_true c15
        have c15b1 := decide_eq_true c15
        by_cases c16 : (wrap64 ((ji13) + 1)) ≤ 10
        ·rw [if_pos c16] at H
         have c16b0 := eq_true c16
         have c16b1 := decide_eq_true c16
         by_cases c17 : ((⟨#[48, 49, 50, 51, 52, 53, 54, 55, 56, 57]⟩ : ByteArray).extract ((ji13) : Int).toNat ((wrap64 ((ji13) + 1)) : Int).toNat).size + x5_1.size ≤ 9223372036854775807
         ·rw [if_pos c17] at H
          have c17b0 := eq_true c17
          have c17b1 := decide_eq_true c17
          try have c17b2 := eq_false (Nat.not_lt.2 c17)
          have H' := Aside0.mk H
          clear H
          go_wp2
          go_roundg k1
          case measure => have := HK1.out; omega
          case rel => exact ⟨(((⟨#[48, 49, 50, 51, 52, 53, 54, 55, 56, 57]⟩ : ByteArray).extract ((ji13) : Int).toNat ((wrap64 ((ji13) + 1)) : Int).toNat) ++ x5_1), (wrap64 (Int.tdiv x6_1 10)), (by first | rfl | (simp; done) | (simp only [← hji13] <;> (first | rfl | simp)) | (simp [*]; done)), (by first | rfl | (simp; done) | (simp [*]; done)), (by first | exact H' | (rw [hji13]; exact H')), ⟨by have := HK1.out; omega⟩, ⟨by repeat (first | (with_reducible first | exact HB.out | apply below_alloc | apply pw_below_drewN | apply below_drew1) | exact HB.out)⟩⟩
         ·rw [if_neg c17] at H
          exact absurd H (by simp)
        ·rw [if_neg c16] at H
         exact absurd H (by simp)
       ·rw [if_neg c15] at H
        exact absurd H (by simp)
      ·rw [if_neg c14] at H
       exact absurd H (by simp)
     ·rw [if_neg c12] at H
      have c12b0 : (x5_1.toList == ([] : List UInt8)) = false := beq_eq_false_iff_ne.mpr c12
      have c12b1 : (x5_1.toList != ([] : List UInt8)) = true := bne_iff_ne.mpr c12
      have HC18 := Aside0.mk H
      clear H
      go_upto_if 33 with (fail)
      go_cut [7] (fun v7 wc => ∃ (kq : Nat) (x7_17 : ByteArray), v7 = .string x7_17 ∧ Aside0 (maquettelaw06_TokenNumbers.j1 kq a0 a1 x7_17 = some r) ∧ Aside0 (kq ≤ k1) ∧ Aside0 (Below w.heap.size w wc))
      case first =>
       have H := HC18.out
       clear HC18
       by_cases c19 : (Int.tmod a1 4) = 3
       ·rw [if_pos c19] at H
        have c19b0 : ((Int.tmod a1 4) == 3) = true := beq_iff_eq.mpr c19
        have c19b1 : ((Int.tmod a1 4) != 3) = false := bne_eq_false_iff_eq.mpr c19
        clear c19
        (first | rw [c19b0] | (simp only [i64_w, i32_w]; rw [c19b0]) | skip)
        by_cases c20 : 1 + x5_1.size ≤ 9223372036854775807
        ·rw [if_pos c20] at H
         have c20b0 := eq_true c20
         have c20b1 := decide_eq_true c20
         try have c20b2 := eq_false (Nat.not_lt.2 c20)
         have H' := Aside0.mk H
         clear H
         go_wp2
         go_meet
         case rel => exact ⟨_, ((⟨#[48]⟩ : ByteArray) ++ x5_1), (by first | rfl | (simp; done) | (simp [*]; done)), H', ⟨by have := HK1.out; first | omega | exact Nat.le_refl _⟩, ⟨by repeat (first | (with_reducible first | exact HB.out | apply below_alloc | apply pw_below_drewN | apply below_drew1) | exact HB.out)⟩⟩
        ·rw [if_neg c20] at H
         exact absurd H (by simp)
       ·rw [if_neg c19] at H
        have c19b0 : ((Int.tmod a1 4) == 3) = false := beq_eq_false_iff_ne.mpr c19
        have c19b1 : ((Int.tmod a1 4) != 3) = true := bne_iff_ne.mpr c19
        (first | rw [c19b0] | (simp only [i64_w, i32_w]; rw [c19b0]) | skip)
        have H' := Aside0.mk H
        clear H
        go_wp2
        go_meet
        case rel => exact ⟨_, (x5_1), (by first | rfl | (simp; done) | (simp [*]; done)), H', ⟨by have := HK1.out; first | omega | exact Nat.le_refl _⟩, ⟨by repeat (first | (with_reducible first | exact HB.out | apply below_alloc | apply pw_below_drewN | apply below_drew1) | exact HB.out)⟩⟩
      case rest =>
       clear HC18
       try clear c1
       try clear c2
       try clear p2 p2
       try clear c4
       try clear c6
       try clear c6b0
       try clear p6
       try clear c7
       try clear c8
       try clear c8b0
       try clear c8b1
       try clear c9
       try clear c9b0
       try clear c9b1
       try clear c10
       try clear c10b0
       try clear c10b1
       try clear c11
       try clear c11b0
       try clear c11b1
       try clear c11b2
       try clear c12
       try clear c12b0
       try clear c12b1
       try clear c14
       try clear c14b0
       try clear c14b1
       try clear c15
       try clear c15b0
       try clear c15b1
       try clear c16
       try clear c16b0
       try clear c16b1
       try clear c17
       try clear c17b0
       try clear c17b1
       try clear c17b2
       try clear c19
       try clear c19b0
       try clear c19b1
       try clear c20
       try clear c20b0
       try clear c20b1
       try clear c20b2
       obtain ⟨kq, x7_17, rfl, HA, HJ17, HB⟩ := hcut
       cases kq with
       | zero => exact absurd HA.out (by simp [maquettelaw06_TokenNumbers.j1])
       | succ kj17 =>
        have H := HA.out
        clear HA
        simp only [maquettelaw06_TokenNumbers.j1] at H
        replace H := Option.bind_eq_some_iff.mp H
        obtain ⟨⟨t241, t242⟩, A210, H⟩ := H
        replace H : (if a0 > 999999 then (maquettelaw06_TokenNumbers.j2 kj17 a0 x7_17 t241 t242 true) else (maquettelaw06_TokenNumbers.j2 kj17 a0 x7_17 t241 t242 ((Int.tmod a1 4) == 3))) = some r := H
        have A21 := Aside0.mk A210
        clear A210
        have HC22 := Aside0.mk H
        clear H
        go_upto_region 12 with (first | ((with_reducible refine gate_dst (N := 38) rfl ?_); refine gl (some 38) Tryd.func9 #[.string x7_17] ?_; (with_reducible refine (token_Cut.calls kj17 x7_17 t241 t242 _ A21.out (Go.Proofs.YthodilggomedgaaDoor.InvE.ivb hInv)).mono ?_); rintro e w23 ⟨v243, rfl, ho0, hb⟩; refine ⟨_, rfl, ?_⟩; have HO244 := Aside0.mk (Kd.R_lower ho0 (below_size bel)); replace HB := bst hb; (try clear hb); (try clear hb2); (try clear hk); (try clear hi); (try clear ho0); (try simp only [errW_none, errW_some])))
        (try simp only [Act.put, List.setIfInBounds_toArray, List.set_cons_zero, List.set_cons_succ])
        go_cut [47] (fun v47 wc => ∃ (kq : Nat) (x47_21 : Bool), v47 = .bool x47_21 ∧ Aside0 (maquettelaw06_TokenNumbers.j2 kq a0 x7_17 t241 t242 x47_21 = some r) ∧ Aside0 (kq ≤ kj17) ∧ Aside0 (Kd.R k33 33 wc w.heap.size (fun _ => True) v243 t241) ∧ Aside0 (Below w.heap.size w wc))
        case first =>
         have H := HC22.out
         clear HC22
         by_cases c24 : a0 > 999999
         ·rw [if_pos c24] at H
          have c24b0 : decide (999999 < a0) = true := decide_eq_true c24
          clear c24
          (first | rw [c24b0] | (simp only [i64_w, i32_w]; rw [c24b0]) | skip)
          have H' := Aside0.mk H
          clear H
          go_wp2
          go_meet
          case rel => exact ⟨_, (true), (by first | rfl | (simp; done) | (simp [*]; done)), H', ⟨by have := HK1.out; have := HJ17.out; first | omega | exact Nat.le_refl _⟩, ⟨by (with_reducible repeat (first | apply Kd.R_alloc | apply Kd.R_drewN | apply Kd.R_drew)); exact HO244.out⟩, ⟨by repeat (first | (with_reducible first | exact HB.out | apply below_alloc | apply pw_below_drewN | apply below_drew1) | exact HB.out)⟩⟩
         ·rw [if_neg c24] at H
          have c24b0 : decide (999999 < a0) = false := decide_eq_false c24
          clear c24
          (first | rw [c24b0] | (simp only [i64_w, i32_w]; rw [c24b0]) | skip)
          have H' := Aside0.mk H
          clear H
          go_wp2
          go_meet
          case rel => exact ⟨_, (((Int.tmod a1 4) == 3)), (by first | rfl | (simp; done) | (simp [*]; done)), H', ⟨by have := HK1.out; have := HJ17.out; first | omega | exact Nat.le_refl _⟩, ⟨by (with_reducible repeat (first | apply Kd.R_alloc | apply Kd.R_drewN | apply Kd.R_drew)); exact HO244.out⟩, ⟨by repeat (first | (with_reducible first | exact HB.out | apply below_alloc | apply pw_below_drewN | apply below_drew1) | exact HB.out)⟩⟩
        case rest =>
         clear HC22
         try clear c1
         try clear c2
         try clear p2 p2
         try clear c4
         try clear c6
         try clear c6b0
         try clear p6 p6
         try clear c7
         try clear c8
         try clear c8b0
         try clear c8b1
         try clear c9
         try clear c9b0
         try clear c9b1
         try clear c10
         try clear c10b0
         try clear c10b1
         try clear c11
         try clear c11b0
         try clear c11b1
         try clear c11b2
         try clear c12
         try clear c12b0
         try clear c12b1
         try clear c14
         try clear c14b0
         try clear c14b1
         try clear c15
         try clear c15b0
         try clear c15b1
         try clear c16
         try clear c16b0
         try clear c16b1
         try clear c17
         try clear c17b0
         try clear c17b1
         try clear c17b2
         try clear c19
         try clear c19b0
         try clear c19b1
         try clear c20
         try clear c20b0
         try clear c20b1
         try clear c20b2
         try clear c24
         try clear c24b0
         obtain ⟨kq, x47_21, rfl, HA, HJ21, HO_8, HB⟩ := hcut
         cases kq with
         | zero => exact absurd HA.out (by simp [maquettelaw06_TokenNumbers.j2])
         | succ kj21 =>
          have H := HA.out
          clear HA
          simp only [maquettelaw06_TokenNumbers.j2] at H
          by_cases c25 : x47_21 = true
          ·subst c25
           have H1 : ((api_Number.f t242).bind fun t245 => (if t245 = 1 then ((api_Place.f t242).bind fun t246 => (if t246 = 0 then (some ((t241.length : Int) == 0)) else (some false))) else (some false))) = some r := by rw [if_pos rfl] at H; exact H
           clear H
           have H := H1
           clear H1
           replace H := Option.bind_eq_some_iff.mp H
           obtain ⟨t245, A260, H⟩ := H
           replace H : (if t245 = 1 then ((api_Place.f t242).bind fun t246 => (if t246 = 0 then (some ((t241.length : Int) == 0)) else (some false))) else (some false)) = some r := H
           have A26 := Aside0.mk A260
           clear A260
           by_cases c27 : t245 = 1
           ·rw [if_pos c27] at H
            have c27b0 : (t245 == 1) = true := beq_iff_eq.mpr c27
            have c27b1 : (t245 != 1) = false := bne_eq_false_iff_eq.mpr c27
            clear c27
            replace H := Option.bind_eq_some_iff.mp H
            obtain ⟨t246, A280, H⟩ := H
            replace H : (if t246 = 0 then (some ((t241.length : Int) == 0)) else (some false)) = some r := H
            have A28 := Aside0.mk A280
            clear A280
            by_cases c29 : t246 = 0
            ·rw [if_pos c29] at H
             have c29b0 : (t246 == 0) = true := beq_iff_eq.mpr c29
             have c29b1 : (t246 != 0) = false := bne_eq_false_iff_eq.mpr c29
             clear c29
             obtain rfl := Option.some.inj H
             have CA26 := fun W hI_ => api_Number.calls t242 t245 W A26.out hI_
             try simp only [errW_none, errW_some] at CA26
             go_wp2_with (first | (go_at_call 12; (with_reducible refine (CA26 _ (Go.Proofs.YthodilggomedgaaDoor.InvE.ivb hInv)).mono ?_); rintro e w30 ⟨rfl, hb⟩; replace HO_8 := Aside0.mk (Kd.R_below (kR HO_8) hb); replace HB := bst hb; (try clear hb); (try clear hb2); (try clear hk); (try clear hi); have CA28 := fun W hI_ => api_Place.calls t242 t246 W A28.out hI_; try simp only [errW_none, errW_some] at CA28) | (go_at_call 10; (with_reducible refine (CA28 _ (Go.Proofs.YthodilggomedgaaDoor.InvE.ivb hInv)).mono ?_); rintro e w31 ⟨rfl, hb⟩; replace HO_8 := Aside0.mk (Kd.R_below (kR HO_8) hb); replace HB := bst hb; (try clear hb); (try clear hb2); (try clear hk); (try clear hi); obtain ⟨Ao32, co32, eo32⟩ := Kd.R_slice HO_8.out; subst eo32))
             go_ret
             exact ⟨by first | rfl | (simp [errW_none, errW_some] <;> rfl) | (simp [*, errW_none, errW_some] <;> rfl), by repeat (first | (with_reducible first | exact HB.out | apply below_alloc | apply pw_below_drewN | apply below_drew1) | exact HB.out)⟩
            ·rw [if_neg c29] at H
             have c29b0 : (t246 == 0) = false := beq_eq_false_iff_ne.mpr c29
             have c29b1 : (t246 != 0) = true := bne_iff_ne.mpr c29
             obtain rfl := Option.some.inj H
             have CA26 := fun W hI_ => api_Number.calls t242 t245 W A26.out hI_
             try simp only [errW_none, errW_some] at CA26
             go_wp2_with (first | (go_at_call 12; (with_reducible refine (CA26 _ (Go.Proofs.YthodilggomedgaaDoor.InvE.ivb hInv)).mono ?_); rintro e w33 ⟨rfl, hb⟩; replace HO_8 := Aside0.mk (Kd.R_below (kR HO_8) hb); replace HB := bst hb; (try clear hb); (try clear hb2); (try clear hk); (try clear hi); have CA28 := fun W hI_ => api_Place.calls t242 t246 W A28.out hI_; try simp only [errW_none, errW_some] at CA28) | (go_at_call 10; (with_reducible refine (CA28 _ (Go.Proofs.YthodilggomedgaaDoor.InvE.ivb hInv)).mono ?_); rintro e w34 ⟨rfl, hb⟩; replace HO_8 := Aside0.mk (Kd.R_below (kR HO_8) hb); replace HB := bst hb; (try clear hb); (try clear hb2); (try clear hk); (try clear hi)))
             go_ret
             exact ⟨by first | rfl | (simp [errW_none, errW_some] <;> rfl) | (simp [*, errW_none, errW_some] <;> rfl), by repeat (first | (with_reducible first | exact HB.out | apply below_alloc | apply pw_below_drewN | apply below_drew1) | exact HB.out)⟩
           ·rw [if_neg c27] at H
            have c27b0 : (t245 == 1) = false := beq_eq_false_iff_ne.mpr c27
            have c27b1 : (t245 != 1) = true := bne_iff_ne.mpr c27
            obtain rfl := Option.some.inj H
            have CA26 := fun W hI_ => api_Number.calls t242 t245 W A26.out hI_
            try simp only [errW_none, errW_some] at CA26
            go_wp2_with (first | (go_at_call 12; (with_reducible refine (CA26 _ (Go.Proofs.YthodilggomedgaaDoor.InvE.ivb hInv)).mono ?_); rintro e w35 ⟨rfl, hb⟩; replace HO_8 := Aside0.mk (Kd.R_below (kR HO_8) hb); replace HB := bst hb; (try clear hb); (try clear hb2); (try clear hk); (try clear hi)))
            go_ret
            exact ⟨by first | rfl | (simp [errW_none, errW_some] <;> rfl) | (simp [*, errW_none, errW_some] <;> rfl), by repeat (first | (with_reducible first | exact HB.out | apply below_alloc | apply pw_below_drewN | apply below_drew1) | exact HB.out)⟩
          ·replace c25 := Bool.eq_false_iff.mpr c25
           subst c25
           have H1 : (if t242.isNone = true then (if (t241.length : Int) = 2 then (if 0 < (t241.length : Int) then (if ((rd_T33 t241 0).f0) = 2 then (if ((rd_T33 t241 0).f2) = (wrap64 (a0)) then (some (((rd_T33 t241 0).f1).toList == x7_17.toList)) else (some false)) else (some false)) else (none)) else (some false)) else (some false)) = some r := by rw [if_neg (show ¬ (false = true) by decide)] at H; exact H
           clear H
           have H := H1
           clear H1
           rcases t242 with _ | q247
           ·have H1 : (if (t241.length : Int) = 2 then (if 0 < (t241.length : Int) then (if ((rd_T33 t241 0).f0) = 2 then (if ((rd_T33 t241 0).f2) = (wrap64 (a0)) then (some (((rd_T33 t241 0).f1).toList == x7_17.toList)) else (some false)) else (some false)) else (none)) else (some false)) = some r := by rw [if_pos (show (none : Option Int).isNone = true by rfl)] at H; exact H
            clear H
            have H := H1
            clear H1
            try simp only [errW_none, errW_some]
            by_cases c36 : (t241.length : Int) = 2
            ·rw [if_pos c36] at H
             have c36b0 : ((t241.length : Int) == 2) = true := beq_iff_eq.mpr c36
             have c36b1 : ((t241.length : Int) != 2) = false := bne_eq_false_iff_eq.mpr c36
             clear c36
             by_cases c37 : 0 < (t241.length : Int)
             ·rw [if_pos c37] at H
              have c37b0 := decide_eq_true c37
              have c37b1 : decide (0 < t241.length) = true := decide_eq_true (by omega)
              clear c37
              by_cases c38 : ((rd_T33 t241 0).f0) = 2
              ·rw [if_pos c38] at H
               have c38b0 : (((rd_T33 t241 0).f0) == 2) = true := beq_iff_eq.mpr c38
               have c38b1 : (((rd_T33 t241 0).f0) != 2) = false := bne_eq_false_iff_eq.mpr c38
               clear c38
               by_cases c39 : ((rd_T33 t241 0).f2) = (wrap64 (a0))
               ·rw [if_pos c39] at H
                have c39b0 : (((rd_T33 t241 0).f2) == (wrap64 (a0))) = true := beq_iff_eq.mpr c39
                have c39b1 : (((rd_T33 t241 0).f2) != (wrap64 (a0))) = false := bne_eq_false_iff_eq.mpr c39
                clear c39
                obtain rfl := Option.some.inj H
                obtain ⟨Ao40, co40, eo40⟩ := Kd.R_slice HO_8.out
                subst eo40
                have p248 : 0 ≤ (0 : Int) := (by omega)
                have q248 : 0 < (t241.length : Int) := of_decide_eq_true (by first | (with_reducible assumption) | assumption)
                obtain ⟨ad248, e248, hx248_0, hx248_1, hx248_2, hx248_3, hx248_4, hx248_5⟩ := at_T33 (Kd.R_reads' HO_8.out).2.2 0 p248 q248
                cases e248
                have qi248 : (0 < t241.length) = True := eq_true (by omega)
                (try rw [show ((0 : Int)).toNat = 0 from rfl] at hx248_0)
                (try rw [show 0 * 6 = 0 from rfl] at hx248_0)
                (try rw [Addr.add_zero'] at hx248_0)
                (try rw [show ((0 : Int)).toNat = 0 from rfl] at hx248_1)
                (try rw [show 0 * 6 = 0 from rfl] at hx248_1)
                (try rw [Addr.add_zero'] at hx248_1)
                (try rw [show ((0 : Int)).toNat = 0 from rfl] at hx248_2)
                (try rw [show 0 * 6 = 0 from rfl] at hx248_2)
                (try rw [Addr.add_zero'] at hx248_2)
                (try rw [show ((0 : Int)).toNat = 0 from rfl] at hx248_3)
                (try rw [show 0 * 6 = 0 from rfl] at hx248_3)
                (try rw [Addr.add_zero'] at hx248_3)
                (try rw [show ((0 : Int)).toNat = 0 from rfl] at hx248_4)
                (try rw [show 0 * 6 = 0 from rfl] at hx248_4)
                (try rw [Addr.add_zero'] at hx248_4)
                (try rw [show ((0 : Int)).toNat = 0 from rfl] at hx248_5)
                (try rw [show 0 * 6 = 0 from rfl] at hx248_5)
                (try rw [Addr.add_zero'] at hx248_5)
                replace p248 := eq_true p248
                replace q248 := eq_true q248
                have p249 : 0 ≤ (0 : Int) := (by omega)
                have q249 : 0 < (t241.length : Int) := of_decide_eq_true (by first | (with_reducible assumption) | assumption)
                obtain ⟨ad249, e249, hx249_0, hx249_1, hx249_2, hx249_3, hx249_4, hx249_5⟩ := at_T33 (Kd.R_reads' HO_8.out).2.2 0 p249 q249
                obtain rfl : ad248 = ad249 := (by injection e249)
                have qi249 : (0 < t241.length) = True := eq_true (by omega)
                (try rw [show ((0 : Int)).toNat = 0 from rfl] at hx249_0)
                (try rw [show 0 * 6 = 0 from rfl] at hx249_0)
                (try rw [Addr.add_zero'] at hx249_0)
                (try rw [show ((0 : Int)).toNat = 0 from rfl] at hx249_1)
                (try rw [show 0 * 6 = 0 from rfl] at hx249_1)
                (try rw [Addr.add_zero'] at hx249_1)
                (try rw [show ((0 : Int)).toNat = 0 from rfl] at hx249_2)
                (try rw [show 0 * 6 = 0 from rfl] at hx249_2)
                (try rw [Addr.add_zero'] at hx249_2)
                (try rw [show ((0 : Int)).toNat = 0 from rfl] at hx249_3)
                (try rw [show 0 * 6 = 0 from rfl] at hx249_3)
                (try rw [Addr.add_zero'] at hx249_3)
                (try rw [show ((0 : Int)).toNat = 0 from rfl] at hx249_4)
                (try rw [show 0 * 6 = 0 from rfl] at hx249_4)
                (try rw [Addr.add_zero'] at hx249_4)
                (try rw [show ((0 : Int)).toNat = 0 from rfl] at hx249_5)
                (try rw [show 0 * 6 = 0 from rfl] at hx249_5)
                (try rw [Addr.add_zero'] at hx249_5)
                replace p249 := eq_true p249
                replace q249 := eq_true q249
                have p250 : 0 ≤ (0 : Int) := (by omega)
                have q250 : 0 < (t241.length : Int) := of_decide_eq_true (by first | (with_reducible assumption) | assumption)
                obtain ⟨ad250, e250, hx250_0, hx250_1, hx250_2, hx250_3, hx250_4, hx250_5⟩ := at_T33 (Kd.R_reads' HO_8.out).2.2 0 p250 q250
                obtain rfl : ad248 = ad250 := (by injection e250)
                have qi250 : (0 < t241.length) = True := eq_true (by omega)
                (try rw [show ((0 : Int)).toNat = 0 from rfl] at hx250_0)
                (try rw [show 0 * 6 = 0 from rfl] at hx250_0)
                (try rw [Addr.add_zero'] at hx250_0)
                (try rw [show ((0 : Int)).toNat = 0 from rfl] at hx250_1)
                (try rw [show 0 * 6 = 0 from rfl] at hx250_1)
                (try rw [Addr.add_zero'] at hx250_1)
                (try rw [show ((0 : Int)).toNat = 0 from rfl] at hx250_2)
                (try rw [show 0 * 6 = 0 from rfl] at hx250_2)
                (try rw [Addr.add_zero'] at hx250_2)
                (try rw [show ((0 : Int)).toNat = 0 from rfl] at hx250_3)
                (try rw [show 0 * 6 = 0 from rfl] at hx250_3)
                (try rw [Addr.add_zero'] at hx250_3)
                (try rw [show ((0 : Int)).toNat = 0 from rfl] at hx250_4)
                (try rw [show 0 * 6 = 0 from rfl] at hx250_4)
                (try rw [Addr.add_zero'] at hx250_4)
                (try rw [show ((0 : Int)).toNat = 0 from rfl] at hx250_5)
                (try rw [show 0 * 6 = 0 from rfl] at hx250_5)
                (try rw [Addr.add_zero'] at hx250_5)
                replace p250 := eq_true p250
                replace q250 := eq_true q250
                go_wp2
                go_ret
                exact ⟨by first | rfl | (simp [errW_none, errW_some] <;> rfl) | (simp [*, errW_none, errW_some] <;> rfl), by repeat (first | (with_reducible first | exact HB.out | apply below_alloc | apply pw_below_drewN | apply below_drew1) | exact HB.out)⟩
               ·rw [if_neg c39] at H
                have c39b0 : (((rd_T33 t241 0).f2) == (wrap64 (a0))) = false := beq_eq_false_iff_ne.mpr c39
                have c39b1 : (((rd_T33 t241 0).f2) != (wrap64 (a0))) = true := bne_iff_ne.mpr c39
                obtain rfl := Option.some.inj H
                obtain ⟨Ao41, co41, eo41⟩ := Kd.R_slice HO_8.out
                subst eo41
                have p248 : 0 ≤ (0 : Int) := (by omega)
                have q248 : 0 < (t241.length : Int) := of_decide_eq_true (by first | (with_reducible assumption) | assumption)
                obtain ⟨ad248, e248, hx248_0, hx248_1, hx248_2, hx248_3, hx248_4, hx248_5⟩ := at_T33 (Kd.R_reads' HO_8.out).2.2 0 p248 q248
                cases e248
                have qi248 : (0 < t241.length) = True := eq_true (by omega)
                (try rw [show ((0 : Int)).toNat = 0 from rfl] at hx248_0)
                (try rw [show 0 * 6 = 0 from rfl] at hx248_0)
                (try rw [Addr.add_zero'] at hx248_0)
                (try rw [show ((0 : Int)).toNat = 0 from rfl] at hx248_1)
                (try rw [show 0 * 6 = 0 from rfl] at hx248_1)
                (try rw [Addr.add_zero'] at hx248_1)
                (try rw [show ((0 : Int)).toNat = 0 from rfl] at hx248_2)
                (try rw [show 0 * 6 = 0 from rfl] at hx248_2)
                (try rw [Addr.add_zero'] at hx248_2)
                (try rw [show ((0 : Int)).toNat = 0 from rfl] at hx248_3)
                (try rw [show 0 * 6 = 0 from rfl] at hx248_3)
                (try rw [Addr.add_zero'] at hx248_3)
                (try rw [show ((0 : Int)).toNat = 0 from rfl] at hx248_4)
                (try rw [show 0 * 6 = 0 from rfl] at hx248_4)
                (try rw [Addr.add_zero'] at hx248_4)
                (try rw [show ((0 : Int)).toNat = 0 from rfl] at hx248_5)
                (try rw [show 0 * 6 = 0 from rfl] at hx248_5)
                (try rw [Addr.add_zero'] at hx248_5)
                replace p248 := eq_true p248
                replace q248 := eq_true q248
                have p249 : 0 ≤ (0 : Int) := (by omega)
                have q249 : 0 < (t241.length : Int) := of_decide_eq_true (by first | (with_reducible assumption) | assumption)
                obtain ⟨ad249, e249, hx249_0, hx249_1, hx249_2, hx249_3, hx249_4, hx249_5⟩ := at_T33 (Kd.R_reads' HO_8.out).2.2 0 p249 q249
                obtain rfl : ad248 = ad249 := (by injection e249)
                have qi249 : (0 < t241.length) = True := eq_true (by omega)
                (try rw [show ((0 : Int)).toNat = 0 from rfl] at hx249_0)
                (try rw [show 0 * 6 = 0 from rfl] at hx249_0)
                (try rw [Addr.add_zero'] at hx249_0)
                (try rw [show ((0 : Int)).toNat = 0 from rfl] at hx249_1)
                (try rw [show 0 * 6 = 0 from rfl] at hx249_1)
                (try rw [Addr.add_zero'] at hx249_1)
                (try rw [show ((0 : Int)).toNat = 0 from rfl] at hx249_2)
                (try rw [show 0 * 6 = 0 from rfl] at hx249_2)
                (try rw [Addr.add_zero'] at hx249_2)
                (try rw [show ((0 : Int)).toNat = 0 from rfl] at hx249_3)
                (try rw [show 0 * 6 = 0 from rfl] at hx249_3)
                (try rw [Addr.add_zero'] at hx249_3)
                (try rw [show ((0 : Int)).toNat = 0 from rfl] at hx249_4)
                (try rw [show 0 * 6 = 0 from rfl] at hx249_4)
                (try rw [Addr.add_zero'] at hx249_4)
                (try rw [show ((0 : Int)).toNat = 0 from rfl] at hx249_5)
                (try rw [show 0 * 6 = 0 from rfl] at hx249_5)
                (try rw [Addr.add_zero'] at hx249_5)
                replace p249 := eq_true p249
                replace q249 := eq_true q249
                go_wp2
                go_ret
                exact ⟨by first | rfl | (simp [errW_none, errW_some] <;> rfl) | (simp [*, errW_none, errW_some] <;> rfl), by repeat (first | (with_reducible first | exact HB.out | apply below_alloc | apply pw_below_drewN | apply below_drew1) | exact HB.out)⟩
              ·rw [if_neg c38] at H
               have c38b0 : (((rd_T33 t241 0).f0) == 2) = false := beq_eq_false_iff_ne.mpr c38
               have c38b1 : (((rd_T33 t241 0).f0) != 2) = true := bne_iff_ne.mpr c38
               obtain rfl := Option.some.inj H
               obtain ⟨Ao42, co42, eo42⟩ := Kd.R_slice HO_8.out
               subst eo42
               have p248 : 0 ≤ (0 : Int) := (by omega)
               have q248 : 0 < (t241.length : Int) := of_decide_eq_true (by first | (with_reducible assumption) | assumption)
               obtain ⟨ad248, e248, hx248_0, hx248_1, hx248_2, hx248_3, hx248_4, hx248_5⟩ := at_T33 (Kd.R_reads' HO_8.out).2.2 0 p248 q248
               cases e248
               have qi248 : (0 < t241.length) = True := eq_true (by omega)
               (try rw [show ((0 : Int)).toNat = 0 from rfl] at hx248_0)
               (try rw [show 0 * 6 = 0 from rfl] at hx248_0)
               (try rw [Addr.add_zero'] at hx248_0)
               (try rw [show ((0 : Int)).toNat = 0 from rfl] at hx248_1)
               (try rw [show 0 * 6 = 0 from rfl] at hx248_1)
               (try rw [Addr.add_zero'] at hx248_1)
               (try rw [show ((0 : Int)).toNat = 0 from rfl] at hx248_2)
               (try rw [show 0 * 6 = 0 from rfl] at hx248_2)
               (try rw [Addr.add_zero'] at hx248_2)
               (try rw [show ((0 : Int)).toNat = 0 from rfl] at hx248_3)
               (try rw [show 0 * 6 = 0 from rfl] at hx248_3)
               (try rw [Addr.add_zero'] at hx248_3)
               (try rw [show ((0 : Int)).toNat = 0 from rfl] at hx248_4)
               (try rw [show 0 * 6 = 0 from rfl] at hx248_4)
               (try rw [Addr.add_zero'] at hx248_4)
               (try rw [show ((0 : Int)).toNat = 0 from rfl] at hx248_5)
               (try rw [show 0 * 6 = 0 from rfl] at hx248_5)
               (try rw [Addr.add_zero'] at hx248_5)
               replace p248 := eq_true p248
               replace q248 := eq_true q248
               go_wp2
               go_ret
               exact ⟨by first | rfl | (simp [errW_none, errW_some] <;> rfl) | (simp [*, errW_none, errW_some] <;> rfl), by repeat (first | (with_reducible first | exact HB.out | apply below_alloc | apply pw_below_drewN | apply below_drew1) | exact HB.out)⟩
             ·rw [if_neg c37] at H
              exact absurd H (by simp)
            ·rw [if_neg c36] at H
             have c36b0 : ((t241.length : Int) == 2) = false := beq_eq_false_iff_ne.mpr c36
             have c36b1 : ((t241.length : Int) != 2) = true := bne_iff_ne.mpr c36
             obtain rfl := Option.some.inj H
             obtain ⟨Ao43, co43, eo43⟩ := Kd.R_slice HO_8.out
             subst eo43
             go_wp2
             go_ret
             exact ⟨by first | rfl | (simp [errW_none, errW_some] <;> rfl) | (simp [*, errW_none, errW_some] <;> rfl), by repeat (first | (with_reducible first | exact HB.out | apply below_alloc | apply pw_below_drewN | apply below_drew1) | exact HB.out)⟩
           ·have H1 : (some false) = some r := by rw [if_neg (show ¬ (some q247).isNone = true by simp)] at H; exact H
            clear H
            have H := H1
            clear H1
            try simp only [errW_none, errW_some]
            obtain rfl := Option.some.inj H
            go_wp2
            go_ret
            exact ⟨by first | rfl | (simp [errW_none, errW_some] <;> rfl) | (simp [*, errW_none, errW_some] <;> rfl), by repeat (first | (with_reducible first | exact HB.out | apply below_alloc | apply pw_below_drewN | apply below_drew1) | exact HB.out)⟩
 ·replace c4 := Bool.eq_false_iff.mpr c4
  subst c4
  have H1 : (some false) = some r := by rw [if_neg (show ¬ (false = true) by decide)] at H; exact H
  clear H
  have H := H1
  clear H1
  obtain rfl := Option.some.inj H
  go_enter Tryd.func7, Tryd.ntmps7
  go_wp2_with (first | ((with_reducible refine gate_dst (N := 10) rfl ?_); refine gl (some 10) Tryd.func8 #[] ?_; (with_reducible refine (maquettelaw06_awake.calls k  false _ A3.out (Go.Proofs.YthodilggomedgaaDoor.InvE.ivb hInv)).mono ?_); rintro e w44 ⟨rfl, hb⟩; refine ⟨_, rfl, ?_⟩; replace HB := bst hb; (try clear hb); (try clear hb2); (try clear hk); (try clear hi)))
  go_ret
  exact ⟨by first | rfl | (simp [errW_none, errW_some] <;> rfl) | (simp [*, errW_none, errW_some] <;> rfl), by repeat (first | (with_reducible first | exact HB.out | apply below_alloc | apply pw_below_drewN | apply below_drew1) | exact HB.out)⟩

end Go.Proofs.YthodilggomedgaaDoor.PTk
