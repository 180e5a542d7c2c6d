-- Written by wip/xprint.py of this work: the printer of the kit, with contracts of this work beside it, shortened.
import Derived.Test.YtbclogifkifaaaaDoorShort
import Derived.Test.YtbclogifkifaaaaDoorPpB
import Derived.Test.YtbclogifkifaaaaDoorPPrex0
import Derived.Test.YtbclogifkifaaaaDoorPPrex1
import Derived.Test.YtbclogifkifaaaaDoorPPrex7
import Derived.Test.YtbclogifkifaaaaDoorPPrex11
import Derived.Test.YtbclogifkifaaaaDoorPPrex13
import Derived.Test.YtbclogifkifaaaaDoorPPrex14
import Derived.Test.YtbclogifkifaaaaDoorPPrex16
namespace Go.Proofs.YtbclogifkifaaaaDoor.PPre
open Go.RowKit Go.Proofs.YtbclogifkifaaaaDoor.Short Go.Proofs.YtbclogifkifaaaaDoorW.PrintWords Go.Proofs.YtbclogifkifaaaaDoorW.PrintLast Go.Proofs.YtbclogifkifaaaaDoorW.PrintMore
attribute [local go_sem] max2_int min2_int max_two min_two max_three min_three max_four min_four   -- for this text's walks alone
set_option linter.unusedVariables false
set_option linter.unusedSimpArgs false

attribute [local go_sem high] eqA27
/-! ### maquettelaw05_PrefixParse: function 3 -/
def maquettelaw05_PrefixParse.l0 : Nat → List ByteArray → Int → Int → Option (Bool)
 | 0, _, _, _ => none
 | k + 1, x33, x34, x35 => if x35 < x34 then (if 0 ≤ x35 then (if x35 < (x33.length : Int) then ((prefix_Parse.f k (rdOf ByteArray.empty x33 x35)).bind fun bt154 => (if bt154.2.2 = true then ((maquettelaw05_may.f k bt154.1 bt154.2.1).bind fun t158 => (if t158 = true then ((maquettelaw05_text.f k bt154.1 bt154.2.1).bind fun t159 => (if t159.toList = (rdOf ByteArray.empty x33 x35).toList then (maquettelaw05_PrefixParse.l0 k x33 x34 (wrap64 (x35 + 1))) else (some false))) else (some false))) else (if (!(bt154.1 == 0) || (!(bt154.2.1 == 0))) = true then (some false) else (maquettelaw05_PrefixParse.l0 k x33 x34 (wrap64 (x35 + 1)))))) else (none)) else (none)) else (some true)
def maquettelaw05_PrefixParse.f (k : Nat) (a0 : ByteArray) (a1 : Int) (a2 : Int) (a3 : Int) : Option (Bool) := (maquettelaw05_awake.f k).bind fun t146 => (if t146 = true then ((maquettelaw05_Make.f k a1).bind fun bt147 => ((maquettelaw05_text.f k bt147.1 bt147.2).bind fun t149 => (if (t149.size : Int) = 0 then (none) else (if 0 ≤ (Int.tmod a3 14) then (if (Int.tmod a3 14) < 14 then (if 0 ≤ (Int.tmod (wrap64 (a2)) (t149.size : Int)) then (if (Int.tmod (wrap64 (a2)) (t149.size : Int)) < (t149.size : Int) then ((some (([a0, strOfNums ((bytesOf t149).set ((Int.tmod (wrap64 (a2)) (t149.size : Int)) : Int).toNat (bt (⟨#[48, 49, 50, 51, 52, 53, 54, 55, 56, 57, 46, 47, 97, 45]⟩ : ByteArray) (Int.tmod a3 14)))] : List ByteArray) : List ByteArray)).bind fun y150 => (maquettelaw05_PrefixParse.l0 k y150 (y150.length : Int) 0)) else (none)) else (none)) else (none)) else (none))))) else (some false))
theorem maquettelaw05_PrefixParse.mono_l : ∀ k, (∀ y0 y1 y2, LeO (maquettelaw05_PrefixParse.l0 k y0 y1 y2) (maquettelaw05_PrefixParse.l0 (k + 1) y0 y1 y2))
 | 0 => fun _ _ _ r h => by simp [maquettelaw05_PrefixParse.l0] at h
 | k + 1 => by
  have ih0 := maquettelaw05_PrefixParse.mono_l k
  ·intro y0 y1 y2
   unfold maquettelaw05_PrefixParse.l0
   repeat' first
   | (with_reducible exact ih0 _ _ _)
   | (with_reducible exact maquettelaw05_Make.mono _ _)
   | (with_reducible exact maquettelaw05_awake.mono _)
   | (with_reducible exact maquettelaw05_may.mono _ _ _)
   | (with_reducible exact maquettelaw05_text.mono _ _ _)
   | (with_reducible exact prefix_Parse.mono _ _)
   | (with_reducible exact LeO.refl _)
   | (with_reducible exact LeO.none _)
   | (with_reducible refine LeO.ite ?_ ?_)
   | (with_reducible refine LeO.bind ?_ (fun _ => ?_))
   | exact ih0 _ _ _
   | exact maquettelaw05_Make.mono _ _
   | exact maquettelaw05_awake.mono _
   | exact maquettelaw05_may.mono _ _ _
   | exact maquettelaw05_text.mono _ _ _
   | exact prefix_Parse.mono _ _
   | exact LeO.none _
   | refine LeO.ite ?_ ?_
   | refine LeO.bind ?_ (fun _ => ?_)
theorem maquettelaw05_PrefixParse.mono : ∀ a0 a1 a2 a3 k, LeO (maquettelaw05_PrefixParse.f k a0 a1 a2 a3) (maquettelaw05_PrefixParse.f (k + 1) a0 a1 a2 a3) := by
 intro a0 a1 a2 a3 k
 have ih0 := maquettelaw05_PrefixParse.mono_l k
 unfold maquettelaw05_PrefixParse.f
 repeat' first
   | (with_reducible exact ih0 _ _ _)
   | (with_reducible exact maquettelaw05_Make.mono _ _)
   | (with_reducible exact maquettelaw05_awake.mono _)
   | (with_reducible exact maquettelaw05_may.mono _ _ _)
   | (with_reducible exact maquettelaw05_text.mono _ _ _)
   | (with_reducible exact prefix_Parse.mono _ _)
   | (with_reducible exact LeO.refl _)
   | (with_reducible exact LeO.none _)
   | (with_reducible refine LeO.ite ?_ ?_)
   | (with_reducible refine LeO.bind ?_ (fun _ => ?_))
   | exact ih0 _ _ _
   | exact maquettelaw05_Make.mono _ _
   | exact maquettelaw05_awake.mono _
   | exact maquettelaw05_may.mono _ _ _
   | exact maquettelaw05_text.mono _ _ _
   | exact prefix_Parse.mono _ _
   | exact LeO.none _
   | refine LeO.ite ?_ ?_
   | refine LeO.bind ?_ (fun _ => ?_)
def maquettelaw05_PrefixParse.T4 : Bool × List (List Nat × List Nat) := (true, [([], []), ([], []), ([1], [1]), ([], []), ([3], [3]), ([2, 4], [2, 4]), ([], []), ([6], [6]), ([7], [7]), ([0, 5, 0, 1, 2, 3, 4, 5, 6, 7, 8], [0, 5]), ([9, 8, 0, 1, 2, 3, 4, 5, 6, 7, 8], [8, 9])])
def maquettelaw05_PrefixParse.B4 : List Nat := [0, 0, 2, 0, 8, 30, 0, 64, 192, 511, 1023]
theorem maquettelaw05_PrefixParse.tab4 : rtab .any (opsOf Tryd.f3 4) = maquettelaw05_PrefixParse.T4 := by kernel_rfl
theorem maquettelaw05_PrefixParse.bits4 : waitsOk maquettelaw05_PrefixParse.T4.2 maquettelaw05_PrefixParse.B4 = true := by kernel_rfl
theorem ite_some {c : Prop} [Decidable c] {x : Option ByteArray} {t : ByteArray} (h : (if c then x else none) = some t) : c ∧ x = some t := by
 by_cases e : c
 ·rw [if_pos e] at h
  exact ⟨e, h⟩
 ·rw [if_neg e] at h
  cases h
theorem text_small {k : Nat} {a b : Int} {t : ByteArray} (h : maquettelaw05_text.f k a b = some t) : t.size ≤ 9223372036854775807 := by
 unfold maquettelaw05_text.f at h
 obtain ⟨t0, -, h⟩ := Option.bind_eq_some_iff.1 h
 obtain ⟨-, h⟩ := ite_some h
 obtain ⟨t1, -, h⟩ := Option.bind_eq_some_iff.1 h
 obtain ⟨-, h⟩ := ite_some h
 obtain ⟨-, h⟩ := ite_some h
 obtain ⟨t2, -, h⟩ := Option.bind_eq_some_iff.1 h
 obtain ⟨-, h⟩ := ite_some h
 obtain ⟨-, h⟩ := ite_some h
 obtain ⟨t3, -, h⟩ := Option.bind_eq_some_iff.1 h
 obtain ⟨-, h⟩ := ite_some h
 obtain ⟨-, h⟩ := ite_some h
 obtain ⟨t4, -, h⟩ := Option.bind_eq_some_iff.1 h
 obtain ⟨hs, h⟩ := ite_some h
 obtain rfl := Option.some.inj h
 rw [ByteArray.size_append]
 exact hs
set_option maxHeartbeats 8000000 in
set_option maxRecDepth 100000 in
theorem maquettelaw05_PrefixParse.calls (k : Nat) (a0 : ByteArray) (a1 : Int) (a2 : Int) (a3 : Int) (r : Bool) (w : World) (h : maquettelaw05_PrefixParse.f k a0 a1 a2 a3 = some r) (hInv : Go.Proofs.YtbclogifkifaaaaDoor.Inv.Inv w) :
  Calls Tryd.prog 3 #[.string a0, .int .u8 a1, .int .u8 a2, .int .u8 a3] w fun e w' => e = .returned (.bool r) ∧ Below w.heap.size w w' := by
 have hu27 := Tryd.underlying27
 have HB := Aside0.mk (Below.refl w.heap.size w)
 have H : ((maquettelaw05_awake.f k).bind fun t146 => (if t146 = true then ((maquettelaw05_Make.f k a1).bind fun bt147 => ((maquettelaw05_text.f k bt147.1 bt147.2).bind fun t149 => (if (t149.size : Int) = 0 then (none) else (if 0 ≤ (Int.tmod a3 14) then (if (Int.tmod a3 14) < 14 then (if 0 ≤ (Int.tmod (wrap64 (a2)) (t149.size : Int)) then (if (Int.tmod (wrap64 (a2)) (t149.size : Int)) < (t149.size : Int) then ((some (([a0, strOfNums ((bytesOf t149).set ((Int.tmod (wrap64 (a2)) (t149.size : Int)) : Int).toNat (bt (⟨#[48, 49, 50, 51, 52, 53, 54, 55, 56, 57, 46, 47, 97, 45]⟩ : ByteArray) (Int.tmod a3 14)))] : List ByteArray) : List ByteArray)).bind fun y150 => (maquettelaw05_PrefixParse.l0 k y150 (y150.length : Int) 0)) else (none)) else (none)) else (none)) else (none))))) else (some false))) = some r := h
 clear h
 replace H := Option.bind_eq_some_iff.mp H
 obtain ⟨t146, A50, H⟩ := H
 replace H : (if t146 = true then ((maquettelaw05_Make.f k a1).bind fun bt147 => ((maquettelaw05_text.f k bt147.1 bt147.2).bind fun t149 => (if (t149.size : Int) = 0 then (none) else (if 0 ≤ (Int.tmod a3 14) then (if (Int.tmod a3 14) < 14 then (if 0 ≤ (Int.tmod (wrap64 (a2)) (t149.size : Int)) then (if (Int.tmod (wrap64 (a2)) (t149.size : Int)) < (t149.size : Int) then ((some (([a0, strOfNums ((bytesOf t149).set ((Int.tmod (wrap64 (a2)) (t149.size : Int)) : Int).toNat (bt (⟨#[48, 49, 50, 51, 52, 53, 54, 55, 56, 57, 46, 47, 97, 45]⟩ : ByteArray) (Int.tmod a3 14)))] : List ByteArray) : List ByteArray)).bind fun y150 => (maquettelaw05_PrefixParse.l0 k y150 (y150.length : Int) 0)) else (none)) else (none)) else (none)) else (none))))) else (some false)) = some r := H
 have A5 := Aside0.mk A50
 clear A50
 by_cases c6 : t146 = true
 ·subst c6
  have H1 : ((maquettelaw05_Make.f k a1).bind fun bt147 => ((maquettelaw05_text.f k bt147.1 bt147.2).bind fun t149 => (if (t149.size : Int) = 0 then (none) else (if 0 ≤ (Int.tmod a3 14) then (if (Int.tmod a3 14) < 14 then (if 0 ≤ (Int.tmod (wrap64 (a2)) (t149.size : Int)) then (if (Int.tmod (wrap64 (a2)) (t149.size : Int)) < (t149.size : Int) then ((some (([a0, strOfNums ((bytesOf t149).set ((Int.tmod (wrap64 (a2)) (t149.size : Int)) : Int).toNat (bt (⟨#[48, 49, 50, 51, 52, 53, 54, 55, 56, 57, 46, 47, 97, 45]⟩ : ByteArray) (Int.tmod a3 14)))] : List ByteArray) : List ByteArray)).bind fun y150 => (maquettelaw05_PrefixParse.l0 k y150 (y150.length : Int) 0)) else (none)) else (none)) else (none)) else (none))))) = some r := by rw [if_pos rfl] at H; exact H
  clear H
  have H := H1
  clear H1
  replace H := Option.bind_eq_some_iff.mp H
  obtain ⟨⟨t147, t148⟩, A70, H⟩ := H
  replace H : ((maquettelaw05_text.f k t147 t148).bind fun t149 => (if (t149.size : Int) = 0 then (none) else (if 0 ≤ (Int.tmod a3 14) then (if (Int.tmod a3 14) < 14 then (if 0 ≤ (Int.tmod (wrap64 (a2)) (t149.size : Int)) then (if (Int.tmod (wrap64 (a2)) (t149.size : Int)) < (t149.size : Int) then ((some (([a0, strOfNums ((bytesOf t149).set ((Int.tmod (wrap64 (a2)) (t149.size : Int)) : Int).toNat (bt (⟨#[48, 49, 50, 51, 52, 53, 54, 55, 56, 57, 46, 47, 97, 45]⟩ : ByteArray) (Int.tmod a3 14)))] : List ByteArray) : List ByteArray)).bind fun y150 => (maquettelaw05_PrefixParse.l0 k y150 (y150.length : Int) 0)) else (none)) else (none)) else (none)) else (none)))) = some r := H
  have A7 := Aside0.mk A70
  clear A70
  replace H := Option.bind_eq_some_iff.mp H
  obtain ⟨t149, A80, H⟩ := H
  replace H : (if (t149.size : Int) = 0 then (none) else (if 0 ≤ (Int.tmod a3 14) then (if (Int.tmod a3 14) < 14 then (if 0 ≤ (Int.tmod (wrap64 (a2)) (t149.size : Int)) then (if (Int.tmod (wrap64 (a2)) (t149.size : Int)) < (t149.size : Int) then ((some (([a0, strOfNums ((bytesOf t149).set ((Int.tmod (wrap64 (a2)) (t149.size : Int)) : Int).toNat (bt (⟨#[48, 49, 50, 51, 52, 53, 54, 55, 56, 57, 46, 47, 97, 45]⟩ : ByteArray) (Int.tmod a3 14)))] : List ByteArray) : List ByteArray)).bind fun y150 => (maquettelaw05_PrefixParse.l0 k y150 (y150.length : Int) 0)) else (none)) else (none)) else (none)) else (none))) = some r := H
  have A8 := Aside0.mk A80
  clear A80
  by_cases c9 : (t149.size : Int) = 0
  ·rw [if_pos c9] at H
   exact absurd H (by simp)
  ·rw [if_neg c9] at H
   have c9b0 : ((t149.size : Int) == 0) = false := beq_eq_false_iff_ne.mpr c9
   have c9b1 : ((t149.size : Int) != 0) = true := bne_iff_ne.mpr c9
   obtain ⟨ji10, hji10⟩ : ∃ j_ : Int, (Int.tmod a3 14) = j_ := ⟨_, rfl⟩
   replace H : (if 0 ≤ (ji10) then (if (ji10) < 14 then (if 0 ≤ (Int.tmod (wrap64 (a2)) (t149.size : Int)) then (if (Int.tmod (wrap64 (a2)) (t149.size : Int)) < (t149.size : Int) then ((some (([a0, strOfNums ((bytesOf t149).set ((Int.tmod (wrap64 (a2)) (t149.size : Int)) : Int).toNat (bt (⟨#[48, 49, 50, 51, 52, 53, 54, 55, 56, 57, 46, 47, 97, 45]⟩ : ByteArray) (ji10)))] : List ByteArray) : List ByteArray)).bind fun y150 => (maquettelaw05_PrefixParse.l0 k y150 (y150.length : Int) 0)) else (none)) else (none)) else (none)) else (none)) = some r := by first | (rw [hji10] at H; exact H) | (simp only [hji10] at H ⊢; exact H)
   (try rw [hji10] at A5)
   (try rw [hji10] at A7)
   (try rw [hji10] at A8)
   by_cases c11 : 0 ≤ (ji10)
   ·rw [if_pos c11] at H
    have c11b0 := decide_eq_true c11
    clear c11
    by_cases c12 : (ji10) < 14
    ·rw [if_pos c12] at H
     have c12b0 := decide_eq_true c12
     clear c12
     obtain ⟨ji14, hji14⟩ : ∃ j_ : Int, (Int.tmod (wrap64 (a2)) (t149.size : Int)) = j_ := ⟨_, rfl⟩
     replace H : (if 0 ≤ (ji14) then (if (ji14) < (t149.size : Int) then ((some (([a0, strOfNums ((bytesOf t149).set (ji14 : Int).toNat (bt (⟨#[48, 49, 50, 51, 52, 53, 54, 55, 56, 57, 46, 47, 97, 45]⟩ : ByteArray) (ji10)))] : List ByteArray) : List ByteArray)).bind fun y150 => (maquettelaw05_PrefixParse.l0 k y150 (y150.length : Int) 0)) else (none)) else (none)) = some r := by first | (rw [hji14] at H; exact H) | (simp only [hji14] at H ⊢; exact H)
     (try rw [hji14] at A5)
     (try rw [hji14] at A7)
     (try rw [hji14] at A8)
     by_cases c15 : 0 ≤ (ji14)
     ·rw [if_pos c15] at H
      have c15b0 := decide_eq_true c15
      clear c15
      by_cases c16 : (ji14) < (t149.size : Int)
      ·rw [if_pos c16] at H
       have c16b0 := decide_eq_true c16
       clear c16
       obtain ⟨y150, hy150⟩ : ∃ y_ : List ByteArray, y_ = (([a0, strOfNums ((bytesOf t149).set (ji14 : Int).toNat (bt (⟨#[48, 49, 50, 51, 52, 53, 54, 55, 56, 57, 46, 47, 97, 45]⟩ : ByteArray) (ji10)))] : List ByteArray)) := ⟨_, rfl⟩
       replace H : (maquettelaw05_PrefixParse.l0 k y150 (y150.length : Int) 0) = some r := by first | (rw [hy150]; with_reducible exact H) | (have H2_ := (Option.bind_some _ _).symm.trans H; rw [hy150]; with_reducible exact H2_) | (have H2_ := (Option.bind_some _ _).symm.trans H; with_reducible exact H2_) | with_reducible exact H | (rw [hy150]; exact H) | exact H
       have Ny150 := Aside0.mk hy150
       clear hy150
       have H' := Aside0.mk H
       clear H
       go_enter Tryd.func3, Tryd.ntmps3
       go_wp2_with (first | (go_at_call 4; (with_reducible refine (maquettelaw05_awake.calls k  true _ A5.out (Go.Proofs.YtbclogifkifaaaaDoor.Inv.ivb hInv)).mono ?_); rintro e w18 ⟨rfl, hb⟩; replace HB := bst hb; (try clear hb); (try clear hb2); (try clear hk); (try clear hi)) | (go_at_call 6; (with_reducible refine (maquettelaw05_Make.calls k a1 t147 t148 _ A7.out).mono ?_); rintro e w19 ⟨rfl, hb⟩; replace HB := bst hb; (try clear hb); (try clear hb2); (try clear hk); (try clear hi)) | (go_at_call 5; (with_reducible refine (maquettelaw05_text.calls k t147 t148 t149 _ A8.out).mono ?_); rintro e w20 ⟨rfl, hb⟩; replace HB := bst hb; (try clear hb); (try clear hb2); (try clear hk); (try clear hi); have p13 : 0 ≤ ((ji10) : Int) := of_decide_eq_true (by first | (with_reducible assumption) | assumption); have q13 : (ji10) < (14 : Int) := of_decide_eq_true (by first | (with_reducible assumption) | assumption); have hx13 := bt_at (⟨#[48, 49, 50, 51, 52, 53, 54, 55, 56, 57, 46, 47, 97, 45]⟩ : ByteArray) (ji10); replace p13 := eq_true p13; replace q13 := eq_true q13; have p17 : 0 ≤ ((ji14) : Int) := of_decide_eq_true (by first | (with_reducible assumption) | assumption); have q17 : (ji14) < (t149.size : Int) := of_decide_eq_true (by first | (with_reducible assumption) | assumption); have hx17 := bt_at t149 (ji14); replace p17 := eq_true p17; replace q17 := eq_true q17; obtain ⟨w21, e21⟩ : ∃ x, Lib.bytesWorld w20 5 t149 = x := ⟨_, rfl⟩; have hcv := print_bytes (P := Tryd.prog) 9 23 5 Tryd.underlying9 Tryd.underlying23 Tryd.underlying5 t149 w20; rw [e21] at hcv))
       have hsz : t149.size ≤ 9223372036854775807 := text_small A8.out
       have hbs := PpB.bs_new w20 5 t149 hsz
       have hfz : ∀ j : Nat, j < t149.size → (Lib.bytesWorld w20 5 t149).frozen? ⟨w20.heap.size, j, none⟩ = false := fun j hj => PpB.bytes_frozen w20 5 t149 j hj
       have HB21 : Below w.heap.size w w21 := by rw [← e21]; exact bytes_below HB.out HB.out.size _ _
       rw [e21] at hbs hfz
       have hgw : w.heap.size ≤ w20.heap.size := HB.out.size
       clear e21
       replace HB := Aside0.mk (below_drew1 HB21)
       clear HB21
       have hne : ¬ t149 = ByteArray.empty := fun e => c9 (by rw [e]; rfl)
       refine start_ (n := 11) (S := fun w' => True) (ds := [10]) #[false, false, false, false, false, false, false, false, false, false, false] (by kernel_rfl) rfl rfl trivial (fun hHeld => ?_)
       refine with_tabW maquettelaw05_PrefixParse.tab4 maquettelaw05_PrefixParse.bits4 (fun HT_ HW_ => ?_)
       have hbs2 : PpB.Bs w21.drew w20.heap.size t149.size (bytesOf t149) := hbs
       have hfz2 : ∀ j : Nat, j < t149.size → w21.drew.frozen? ⟨w20.heap.size, j, none⟩ = false := hfz
       clear hbs hfz
       generalize w21.drew = w22 at hbs2 hfz2 HB ⊢
       generalize hgd : w20.heap.size = g20 at hbs2 hfz2 hgw ⊢
       refine pu HT_ 0 (some 20) (mk 11 1) ?_
       refine pu HT_ 1 (some 21) (mk 11 3) ?_
       refine pu HT_ 2 (some 22) (mk 11 7) ?_
       refine pu HT_ 3 (some 23) (mk 11 15) ?_
       refine pu HT_ 4 (some 24) (mk 11 31) ?_
       refine pu HT_ 5 (some 25) (mk 11 63) ?_
       refine pu HT_ 6 (some 26) (mk 11 127) ?_
       refine pu HT_ 7 (some 27) (mk 11 255) ?_
       refine pu HT_ 8 (some 28) (mk 11 511) ?_
       refine pu HT_ 9 (some 29) (mk 11 1023) ?_
       refine la HT_ 10 (none) (mk 11 2047) fun K hK => ?_
       have hlt : (ji14 : Int).toNat < t149.size := by have h0 := of_eq_true p17; have h1 := of_eq_true q17; omega
       have hs0 := hbs2.2.2 _ hlt
       have hf0 := hfz2 _ hlt
       refine skip_ (w1 := w22.setCell ⟨g20, (ji14 : Int).toNat, none⟩ (.int .u8 (bt (⟨#[48, 49, 50, 51, 52, 53, 54, 55, 56, 57, 46, 47, 97, 45]⟩ : ByteArray) (ji10)))) (by rfl) rfl ?_ ?_
       ·go_simp
       refine hK.out _ _ ?_
       clear hK K
       refine done_ (done_of HT_.out (by kernel_rfl)) ?_
       have hbs3 := PpB.bs_set hbs2 _ hlt (bt (⟨#[48, 49, 50, 51, 52, 53, 54, 55, 56, 57, 46, 47, 97, 45]⟩ : ByteArray) (ji10))
       replace HB := Aside0.mk (below_set HB.out hgw (j := (ji14 : Int).toNat) (v := .int .u8 (bt (⟨#[48, 49, 50, 51, 52, 53, 54, 55, 56, 57, 46, 47, 97, 45]⟩ : ByteArray) (ji10))))
       clear hs0 hf0 hbs2 hfz2
       generalize w22.setCell ⟨g20, (ji14 : Int).toNat, none⟩ (.int .u8 (bt (⟨#[48, 49, 50, 51, 52, 53, 54, 55, 56, 57, 46, 47, 97, 45]⟩ : ByteArray) (ji10))) = w23 at hbs3 HB ⊢
       have hback := string_of_reads (P := Tryd.prog) (src := 23) (dst := 9) (e := 5) (c := grownCap w20 t149.size 0 5) Tryd.underlying23 Tryd.underlying5 Tryd.underlying9 (PpB.bs_reads hbs3)
       go_wp2_with (first | ((with_reducible refine gate_dst (N := 33) rfl ?_); refine Kd.R_lit Kd.string _ 9 ?hg (N := 33) ?hd (xs := ([a0, strOfNums ((bytesOf t149).set (ji14 : Int).toNat (bt (⟨#[48, 49, 50, 51, 52, 53, 54, 55, 56, 57, 46, 47, 97, 45]⟩ : ByteArray) (ji10)))] : List ByteArray)) (inner := [.string a0, .string (strOfNums ((bytesOf t149).set (ji14 : Int).toNat (bt (⟨#[48, 49, 50, 51, 52, 53, 54, 55, 56, 57, 46, 47, 97, 45]⟩ : ByteArray) (ji10))))]) (ok := fun _ => True) (okp := fun _ => True) ?hr ?hp (fun _ hk => hk) trivial (Below.refl _ _) (Nat.le_refl _) (by simp) ?_; (case hd => rfl); (case hg => rfl); (case hr => first | (go_simp; done) | (go_simp; rfl)); (case hp => exact (Reps.one (show Kd.M Kd.string _ _ _ a0 [.string a0] from rfl) (Reps.one (show Kd.M Kd.string _ _ _ (strOfNums ((bytesOf t149).set (ji14 : Int).toNat (bt (⟨#[48, 49, 50, 51, 52, 53, 54, 55, 56, 57, 46, 47, 97, 45]⟩ : ByteArray) (ji10)))) [.string (strOfNums ((bytesOf t149).set (ji14 : Int).toNat (bt (⟨#[48, 49, 50, 51, 52, 53, 54, 55, 56, 57, 46, 47, 97, 45]⟩ : ByteArray) (ji10))))] from rfl) (Reps.none _ _)))); intro v151 w21 ho22 hb hg_ hnew_; clear hg_ hnew_; (first | rw [← Ny150.out] at ho22 | (simp only [Int.reduceToNat] at ho22; rw [← Ny150.out] at ho22)); have HO152 := Aside0.mk (Kd.R_lower ho22 (below_size bel)); replace HB := bst hb; clear hb ho22; obtain ⟨Ao23, co23, eo23⟩ := Kd.R_slice HO152.out; subst eo23))
       go_loopg [35] k (fun kq v35 w' => ∃ (x35_1 : Int), v35 = .int .i64 x35_1 ∧ Aside0 (maquettelaw05_PrefixParse.l0 kq y150 (y150.length : Int) x35_1 = some r) ∧ Aside0 (kq ≤ k) ∧ Aside0 (Kd.R Kd.string 9 w' w.heap.size (fun _ => True) (.slice Ao23 y150.length co23) y150) ∧ Aside0 (Below w.heap.size w w'))
       case atStart => exact ⟨(0), (by first | rfl | (simp; done) | (simp [*]; done)), H', ⟨Nat.le_refl _⟩, ⟨by (with_reducible repeat (first | apply Kd.R_alloc | apply Kd.R_drewN | apply Kd.R_drew)); exact HO152.out⟩, ⟨by repeat (first | (with_reducible first | exact HB.out | apply below_alloc | apply pw_below_drewN | apply below_drew1) | exact HB.out)⟩⟩
       case round =>
        clear H'
        try clear c1
        try clear p1
        try clear q1
        try clear hx1
        try clear p2
        try clear c3
        try clear c6
        try clear p6
        try clear c9
        try clear c9b0
        try clear c9b1
        try clear c11
        try clear c11b0
        try clear c12
        try clear c12b0
        try clear p13 p13
        try clear q13 q13
        try clear hx13
        try clear c15
        try clear c15b0
        try clear c16
        try clear c16b0
        try clear p17 p17
        try clear q17 q17
        try clear hx17
        obtain ⟨x35_1, rfl, HA, HK1, HO_33, HB⟩ := hrel
        cases gk with
        | zero => exact absurd HA.out (by simp [maquettelaw05_PrefixParse.l0])
        | succ k1 =>
         have H := HA.out
         clear HA
         simp only [maquettelaw05_PrefixParse.l0] at H
         by_cases c24 : x35_1 < (y150.length : Int)
         ·rw [if_pos c24] at H
          have c24b0 := decide_eq_true c24
          clear c24
          by_cases c25 : 0 ≤ x35_1
          ·rw [if_pos c25] at H
           have c25b0 := decide_eq_true c25
           clear c25
           by_cases c26 : x35_1 < (y150.length : Int)
           ·rw [if_pos c26] at H
            have c26b0 := decide_eq_true c26
            clear c26
            replace H := Option.bind_eq_some_iff.mp H
            obtain ⟨⟨t154, t155, t156⟩, A270, H⟩ := H
            replace H : (if t156 = true then ((maquettelaw05_may.f k1 t154 t155).bind fun t158 => (if t158 = true then ((maquettelaw05_text.f k1 t154 t155).bind fun t159 => (if t159.toList = (rdOf ByteArray.empty y150 x35_1).toList then (maquettelaw05_PrefixParse.l0 k1 y150 (y150.length : Int) (wrap64 (x35_1 + 1))) else (some false))) else (some false))) else (if (!(t154 == 0) || (!(t155 == 0))) = true then (some false) else (maquettelaw05_PrefixParse.l0 k1 y150 (y150.length : Int) (wrap64 (x35_1 + 1))))) = some r := H
            have A27 := Aside0.mk A270
            clear A270
            by_cases c28 : t156 = true
            ·subst c28
             have H1 : ((maquettelaw05_may.f k1 t154 t155).bind fun t158 => (if t158 = true then ((maquettelaw05_text.f k1 t154 t155).bind fun t159 => (if t159.toList = (rdOf ByteArray.empty y150 x35_1).toList then (maquettelaw05_PrefixParse.l0 k1 y150 (y150.length : Int) (wrap64 (x35_1 + 1))) else (some false))) else (some false))) = some r := by rw [if_pos rfl] at H; exact H
             clear H
             have H := H1
             clear H1
             replace H := Option.bind_eq_some_iff.mp H
             obtain ⟨t158, A290, H⟩ := H
             replace H : (if t158 = true then ((maquettelaw05_text.f k1 t154 t155).bind fun t159 => (if t159.toList = (rdOf ByteArray.empty y150 x35_1).toList then (maquettelaw05_PrefixParse.l0 k1 y150 (y150.length : Int) (wrap64 (x35_1 + 1))) else (some false))) else (some false)) = some r := H
             have A29 := Aside0.mk A290
             clear A290
             by_cases c30 : t158 = true
             ·subst c30
              have H1 : ((maquettelaw05_text.f k1 t154 t155).bind fun t159 => (if t159.toList = (rdOf ByteArray.empty y150 x35_1).toList then (maquettelaw05_PrefixParse.l0 k1 y150 (y150.length : Int) (wrap64 (x35_1 + 1))) else (some false))) = some r := by rw [if_pos rfl] at H; exact H
              clear H
              have H := H1
              clear H1
              replace H := Option.bind_eq_some_iff.mp H
              obtain ⟨t159, A310, H⟩ := H
              replace H : (if t159.toList = (rdOf ByteArray.empty y150 x35_1).toList then (maquettelaw05_PrefixParse.l0 k1 y150 (y150.length : Int) (wrap64 (x35_1 + 1))) else (some false)) = some r := H
              have A31 := Aside0.mk A310
              clear A310
              by_cases c32 : t159.toList = (rdOf ByteArray.empty y150 x35_1).toList
              ·rw [if_pos c32] at H
               have c32b0 : (t159.toList == (rdOf ByteArray.empty y150 x35_1).toList) = true := beq_iff_eq.mpr c32
               have c32b1 : (t159.toList != (rdOf ByteArray.empty y150 x35_1).toList) = false := bne_eq_false_iff_eq.mpr c32
               clear c32
               have H' := Aside0.mk H
               clear H
               have p153 : 0 ≤ (x35_1 : Int) := of_decide_eq_true (by first | (with_reducible assumption) | assumption)
               have q153 : x35_1 < (y150.length : Int) := of_decide_eq_true (by first | (with_reducible assumption) | assumption)
               obtain ⟨ad153, e153, hx153_0⟩ := Kd.at_string (Kd.R_reads' HO_33.out).2.2 x35_1 p153 q153
               cases e153
               replace p153 := eq_true p153
               replace q153 := eq_true q153
               go_wp2_with (first | (go_at_call 7; (with_reducible refine (prefix_Parse.calls k1 (rdOf ByteArray.empty y150 x35_1) t154 t155 true _ A27.out (Go.Proofs.YtbclogifkifaaaaDoor.Inv.ivb hInv)).mono ?_); rintro e w33 ⟨rfl, hb⟩; replace HO_33 := Aside0.mk (Kd.R_below (kR HO_33) hb); replace HB := bst hb; (try clear hb); (try clear hb2); (try clear hk); (try clear hi)) | ((with_reducible refine gate_dst (N := 12) rfl ?_); refine bx 12 (cs := #[.int .u32 0, .int .i64 0]) (t := 27) (h := ?_); intro gb157 hg w34 hbox hb; have BK157 := Aside0.mk hbox; have GW157 : Aside0 (w.heap.size ≤ gb157) := bge hg; have GE157 : Aside0 (w.heap.size ≤ gb157) := bge hg; replace HO_33 := Aside0.mk (Kd.R_below (kR HO_33) hb); replace HB := bst hb; clear hb hbox hg; obtain ⟨hcz35_0, hcz35_1, hfz35_0, hfz35_1⟩ := bc2 BK157) | (go_at_call 8; (with_reducible refine (maquettelaw05_may.calls k1 t154 t155 true _ A29.out).mono ?_); rintro e w36 ⟨rfl, hb⟩; replace HO_33 := Aside0.mk (Kd.R_below (by (with_reducible repeat (first | apply Kd.R_alloc | apply Kd.R_drewN | apply Kd.R_drew)); exact (Kd.R_mono (Kd.R_far (p := ⟨gb157, 1, none⟩) (Kd.R_far (p := ⟨gb157, 0, none⟩) (Kd.R_types HO_33.out BK157.out (by decide)) (fun _ hk => hk.2) (.int .u32 t154)) (fun _ hk => hk.2) (.int .i64 t155)) (fun _ h_ => h_.1))) hb); replace BK157 := Aside0.mk (blk_below (g := gb157) (o := .cells #[.int .u32 t154, .int .i64 t155] 27 (0, 0)) (bkp BK157) hb); replace HB := bst hb; (try clear hb); (try clear hb2); (try clear hk); (try clear hi); obtain ⟨hcz37_0, hcz37_1, hfz37_0, hfz37_1⟩ := bc2 BK157) | (go_at_call 5; (with_reducible refine (maquettelaw05_text.calls k1 t154 t155 t159 _ A31.out).mono ?_); rintro e w38 ⟨rfl, hb⟩; replace HO_33 := Aside0.mk (Kd.R_below (kR HO_33) hb); replace BK157 := bkb BK157 hb; replace HB := bst hb; (try clear hb); (try clear hb2); (try clear hk); (try clear hi)))
               repeat (go_quiet (first | (go_at_call 7; (with_reducible refine (prefix_Parse.calls k1 (rdOf ByteArray.empty y150 x35_1) t154 t155 true _ A27.out (Go.Proofs.YtbclogifkifaaaaDoor.Inv.ivb hInv)).mono ?_); rintro e w33 ⟨rfl, hb⟩; replace HO_33 := Aside0.mk (Kd.R_below (kR HO_33) hb); replace HB := bst hb; (try clear hb); (try clear hb2); (try clear hk); (try clear hi)) | ((with_reducible refine gate_dst (N := 12) rfl ?_); refine bx 12 (cs := #[.int .u32 0, .int .i64 0]) (t := 27) (h := ?_); intro gb157 hg w34 hbox hb; have BK157 := Aside0.mk hbox; have GW157 : Aside0 (w.heap.size ≤ gb157) := bge hg; have GE157 : Aside0 (w.heap.size ≤ gb157) := bge hg; replace HO_33 := Aside0.mk (Kd.R_below (kR HO_33) hb); replace HB := bst hb; clear hb hbox hg; obtain ⟨hcz35_0, hcz35_1, hfz35_0, hfz35_1⟩ := bc2 BK157) | (go_at_call 8; (with_reducible refine (maquettelaw05_may.calls k1 t154 t155 true _ A29.out).mono ?_); rintro e w36 ⟨rfl, hb⟩; replace HO_33 := Aside0.mk (Kd.R_below (by (with_reducible repeat (first | apply Kd.R_alloc | apply Kd.R_drewN | apply Kd.R_drew)); exact (Kd.R_mono (Kd.R_far (p := ⟨gb157, 1, none⟩) (Kd.R_far (p := ⟨gb157, 0, none⟩) (Kd.R_types HO_33.out BK157.out (by decide)) (fun _ hk => hk.2) (.int .u32 t154)) (fun _ hk => hk.2) (.int .i64 t155)) (fun _ h_ => h_.1))) hb); replace BK157 := Aside0.mk (blk_below (g := gb157) (o := .cells #[.int .u32 t154, .int .i64 t155] 27 (0, 0)) (bkp BK157) hb); replace HB := bst hb; (try clear hb); (try clear hb2); (try clear hk); (try clear hi); obtain ⟨hcz37_0, hcz37_1, hfz37_0, hfz37_1⟩ := bc2 BK157) | (go_at_call 5; (with_reducible refine (maquettelaw05_text.calls k1 t154 t155 t159 _ A31.out).mono ?_); rintro e w38 ⟨rfl, hb⟩; replace HO_33 := Aside0.mk (Kd.R_below (kR HO_33) hb); replace BK157 := bkb BK157 hb; replace HB := bst hb; (try clear hb); (try clear hb2); (try clear hk); (try clear hi))); try go_wp2_with (first | (go_at_call 7; (with_reducible refine (prefix_Parse.calls k1 (rdOf ByteArray.empty y150 x35_1) t154 t155 true _ A27.out (Go.Proofs.YtbclogifkifaaaaDoor.Inv.ivb hInv)).mono ?_); rintro e w33 ⟨rfl, hb⟩; replace HO_33 := Aside0.mk (Kd.R_below (kR HO_33) hb); replace HB := bst hb; (try clear hb); (try clear hb2); (try clear hk); (try clear hi)) | ((with_reducible refine gate_dst (N := 12) rfl ?_); refine bx 12 (cs := #[.int .u32 0, .int .i64 0]) (t := 27) (h := ?_); intro gb157 hg w34 hbox hb; have BK157 := Aside0.mk hbox; have GW157 : Aside0 (w.heap.size ≤ gb157) := bge hg; have GE157 : Aside0 (w.heap.size ≤ gb157) := bge hg; replace HO_33 := Aside0.mk (Kd.R_below (kR HO_33) hb); replace HB := bst hb; clear hb hbox hg; obtain ⟨hcz35_0, hcz35_1, hfz35_0, hfz35_1⟩ := bc2 BK157) | (go_at_call 8; (with_reducible refine (maquettelaw05_may.calls k1 t154 t155 true _ A29.out).mono ?_); rintro e w36 ⟨rfl, hb⟩; replace HO_33 := Aside0.mk (Kd.R_below (by (with_reducible repeat (first | apply Kd.R_alloc | apply Kd.R_drewN | apply Kd.R_drew)); exact (Kd.R_mono (Kd.R_far (p := ⟨gb157, 1, none⟩) (Kd.R_far (p := ⟨gb157, 0, none⟩) (Kd.R_types HO_33.out BK157.out (by decide)) (fun _ hk => hk.2) (.int .u32 t154)) (fun _ hk => hk.2) (.int .i64 t155)) (fun _ h_ => h_.1))) hb); replace BK157 := Aside0.mk (blk_below (g := gb157) (o := .cells #[.int .u32 t154, .int .i64 t155] 27 (0, 0)) (bkp BK157) hb); replace HB := bst hb; (try clear hb); (try clear hb2); (try clear hk); (try clear hi); obtain ⟨hcz37_0, hcz37_1, hfz37_0, hfz37_1⟩ := bc2 BK157) | (go_at_call 5; (with_reducible refine (maquettelaw05_text.calls k1 t154 t155 t159 _ A31.out).mono ?_); rintro e w38 ⟨rfl, hb⟩; replace HO_33 := Aside0.mk (Kd.R_below (kR HO_33) hb); replace BK157 := bkb BK157 hb; replace HB := bst hb; (try clear hb); (try clear hb2); (try clear hk); (try clear hi))))
               go_roundg k1
               case measure => have := HK1.out; omega
               case rel => exact ⟨(wrap64 (x35_1 + 1)), (by first | rfl | (simp; done) | (simp [*]; done)), H', ⟨by have := HK1.out; omega⟩, ⟨by (with_reducible repeat (first | apply Kd.R_alloc | apply Kd.R_drewN | apply Kd.R_drew)); exact HO_33.out⟩, ⟨by repeat (first | (with_reducible first | exact HB.out | apply below_alloc | apply pw_below_drewN | apply below_drew1 | refine below_set ?_ GE157.out) | exact HB.out)⟩⟩
              ·rw [if_neg c32] at H
               have c32b0 : (t159.toList == (rdOf ByteArray.empty y150 x35_1).toList) = false := beq_eq_false_iff_ne.mpr c32
               have c32b1 : (t159.toList != (rdOf ByteArray.empty y150 x35_1).toList) = true := bne_iff_ne.mpr c32
               obtain rfl := Option.some.inj H
               have p153 : 0 ≤ (x35_1 : Int) := of_decide_eq_true (by first | (with_reducible assumption) | assumption)
               have q153 : x35_1 < (y150.length : Int) := of_decide_eq_true (by first | (with_reducible assumption) | assumption)
               obtain ⟨ad153, e153, hx153_0⟩ := Kd.at_string (Kd.R_reads' HO_33.out).2.2 x35_1 p153 q153
               cases e153
               replace p153 := eq_true p153
               replace q153 := eq_true q153
               go_wp2_with (first | (go_at_call 7; (with_reducible refine (prefix_Parse.calls k1 (rdOf ByteArray.empty y150 x35_1) t154 t155 true _ A27.out (Go.Proofs.YtbclogifkifaaaaDoor.Inv.ivb hInv)).mono ?_); rintro e w39 ⟨rfl, hb⟩; replace HO_33 := Aside0.mk (Kd.R_below (kR HO_33) hb); replace HB := bst hb; (try clear hb); (try clear hb2); (try clear hk); (try clear hi)) | ((with_reducible refine gate_dst (N := 12) rfl ?_); refine bx 12 (cs := #[.int .u32 0, .int .i64 0]) (t := 27) (h := ?_); intro gb157 hg w40 hbox hb; have BK157 := Aside0.mk hbox; have GW157 : Aside0 (w.heap.size ≤ gb157) := bge hg; have GE157 : Aside0 (w.heap.size ≤ gb157) := bge hg; replace HO_33 := Aside0.mk (Kd.R_below (kR HO_33) hb); replace HB := bst hb; clear hb hbox hg; obtain ⟨hcz41_0, hcz41_1, hfz41_0, hfz41_1⟩ := bc2 BK157) | (go_at_call 8; (with_reducible refine (maquettelaw05_may.calls k1 t154 t155 true _ A29.out).mono ?_); rintro e w42 ⟨rfl, hb⟩; replace HO_33 := Aside0.mk (Kd.R_below (by (with_reducible repeat (first | apply Kd.R_alloc | apply Kd.R_drewN | apply Kd.R_drew)); exact (Kd.R_mono (Kd.R_far (p := ⟨gb157, 1, none⟩) (Kd.R_far (p := ⟨gb157, 0, none⟩) (Kd.R_types HO_33.out BK157.out (by decide)) (fun _ hk => hk.2) (.int .u32 t154)) (fun _ hk => hk.2) (.int .i64 t155)) (fun _ h_ => h_.1))) hb); replace BK157 := Aside0.mk (blk_below (g := gb157) (o := .cells #[.int .u32 t154, .int .i64 t155] 27 (0, 0)) (bkp BK157) hb); replace HB := bst hb; (try clear hb); (try clear hb2); (try clear hk); (try clear hi); obtain ⟨hcz43_0, hcz43_1, hfz43_0, hfz43_1⟩ := bc2 BK157) | (go_at_call 5; (with_reducible refine (maquettelaw05_text.calls k1 t154 t155 t159 _ A31.out).mono ?_); rintro e w44 ⟨rfl, hb⟩; replace HO_33 := Aside0.mk (Kd.R_below (kR HO_33) hb); replace BK157 := bkb BK157 hb; replace HB := bst hb; (try clear hb); (try clear hb2); (try clear hk); (try clear hi)))
               repeat (go_quiet (first | (go_at_call 7; (with_reducible refine (prefix_Parse.calls k1 (rdOf ByteArray.empty y150 x35_1) t154 t155 true _ A27.out (Go.Proofs.YtbclogifkifaaaaDoor.Inv.ivb hInv)).mono ?_); rintro e w39 ⟨rfl, hb⟩; replace HO_33 := Aside0.mk (Kd.R_below (kR HO_33) hb); replace HB := bst hb; (try clear hb); (try clear hb2); (try clear hk); (try clear hi)) | ((with_reducible refine gate_dst (N := 12) rfl ?_); refine bx 12 (cs := #[.int .u32 0, .int .i64 0]) (t := 27) (h := ?_); intro gb157 hg w40 hbox hb; have BK157 := Aside0.mk hbox; have GW157 : Aside0 (w.heap.size ≤ gb157) := bge hg; have GE157 : Aside0 (w.heap.size ≤ gb157) := bge hg; replace HO_33 := Aside0.mk (Kd.R_below (kR HO_33) hb); replace HB := bst hb; clear hb hbox hg; obtain ⟨hcz41_0, hcz41_1, hfz41_0, hfz41_1⟩ := bc2 BK157) | (go_at_call 8; (with_reducible refine (maquettelaw05_may.calls k1 t154 t155 true _ A29.out).mono ?_); rintro e w42 ⟨rfl, hb⟩; replace HO_33 := Aside0.mk (Kd.R_below (by (with_reducible repeat (first | apply Kd.R_alloc | apply Kd.R_drewN | apply Kd.R_drew)); exact (Kd.R_mono (Kd.R_far (p := ⟨gb157, 1, none⟩) (Kd.R_far (p := ⟨gb157, 0, none⟩) (Kd.R_types HO_33.out BK157.out (by decide)) (fun _ hk => hk.2) (.int .u32 t154)) (fun _ hk => hk.2) (.int .i64 t155)) (fun _ h_ => h_.1))) hb); replace BK157 := Aside0.mk (blk_below (g := gb157) (o := .cells #[.int .u32 t154, .int .i64 t155] 27 (0, 0)) (bkp BK157) hb); replace HB := bst hb; (try clear hb); (try clear hb2); (try clear hk); (try clear hi); obtain ⟨hcz43_0, hcz43_1, hfz43_0, hfz43_1⟩ := bc2 BK157) | (go_at_call 5; (with_reducible refine (maquettelaw05_text.calls k1 t154 t155 t159 _ A31.out).mono ?_); rintro e w44 ⟨rfl, hb⟩; replace HO_33 := Aside0.mk (Kd.R_below (kR HO_33) hb); replace BK157 := bkb BK157 hb; replace HB := bst hb; (try clear hb); (try clear hb2); (try clear hk); (try clear hi))); try go_wp2_with (first | (go_at_call 7; (with_reducible refine (prefix_Parse.calls k1 (rdOf ByteArray.empty y150 x35_1) t154 t155 true _ A27.out (Go.Proofs.YtbclogifkifaaaaDoor.Inv.ivb hInv)).mono ?_); rintro e w39 ⟨rfl, hb⟩; replace HO_33 := Aside0.mk (Kd.R_below (kR HO_33) hb); replace HB := bst hb; (try clear hb); (try clear hb2); (try clear hk); (try clear hi)) | ((with_reducible refine gate_dst (N := 12) rfl ?_); refine bx 12 (cs := #[.int .u32 0, .int .i64 0]) (t := 27) (h := ?_); intro gb157 hg w40 hbox hb; have BK157 := Aside0.mk hbox; have GW157 : Aside0 (w.heap.size ≤ gb157) := bge hg; have GE157 : Aside0 (w.heap.size ≤ gb157) := bge hg; replace HO_33 := Aside0.mk (Kd.R_below (kR HO_33) hb); replace HB := bst hb; clear hb hbox hg; obtain ⟨hcz41_0, hcz41_1, hfz41_0, hfz41_1⟩ := bc2 BK157) | (go_at_call 8; (with_reducible refine (maquettelaw05_may.calls k1 t154 t155 true _ A29.out).mono ?_); rintro e w42 ⟨rfl, hb⟩; replace HO_33 := Aside0.mk (Kd.R_below (by (with_reducible repeat (first | apply Kd.R_alloc | apply Kd.R_drewN | apply Kd.R_drew)); exact (Kd.R_mono (Kd.R_far (p := ⟨gb157, 1, none⟩) (Kd.R_far (p := ⟨gb157, 0, none⟩) (Kd.R_types HO_33.out BK157.out (by decide)) (fun _ hk => hk.2) (.int .u32 t154)) (fun _ hk => hk.2) (.int .i64 t155)) (fun _ h_ => h_.1))) hb); replace BK157 := Aside0.mk (blk_below (g := gb157) (o := .cells #[.int .u32 t154, .int .i64 t155] 27 (0, 0)) (bkp BK157) hb); replace HB := bst hb; (try clear hb); (try clear hb2); (try clear hk); (try clear hi); obtain ⟨hcz43_0, hcz43_1, hfz43_0, hfz43_1⟩ := bc2 BK157) | (go_at_call 5; (with_reducible refine (maquettelaw05_text.calls k1 t154 t155 t159 _ A31.out).mono ?_); rintro e w44 ⟨rfl, hb⟩; replace HO_33 := Aside0.mk (Kd.R_below (kR HO_33) hb); replace BK157 := bkb BK157 hb; replace HB := bst hb; (try clear hb); (try clear hb2); (try clear hk); (try clear hi))))
               go_ret
               exact ⟨by first | rfl | (simp [errW_none, errW_some] <;> rfl) | (simp only [← hji10, ← hji14]; first | rfl | (simp [errW_none, errW_some] <;> rfl)) | (simp [*, errW_none, errW_some] <;> rfl), by repeat (first | (with_reducible first | exact HB.out | apply below_alloc | apply pw_below_drewN | apply below_drew1 | refine below_set ?_ GE157.out) | exact HB.out)⟩
             ·replace c30 := Bool.eq_false_iff.mpr c30
              subst c30
              have H1 : (some false) = some r := by rw [if_neg (show ¬ (false = true) by decide)] at H; exact H
              clear H
              have H := H1
              clear H1
              obtain rfl := Option.some.inj H
              have p153 : 0 ≤ (x35_1 : Int) := of_decide_eq_true (by first | (with_reducible assumption) | assumption)
              have q153 : x35_1 < (y150.length : Int) := of_decide_eq_true (by first | (with_reducible assumption) | assumption)
              obtain ⟨ad153, e153, hx153_0⟩ := Kd.at_string (Kd.R_reads' HO_33.out).2.2 x35_1 p153 q153
              cases e153
              replace p153 := eq_true p153
              replace q153 := eq_true q153
              go_wp2_with (first | (go_at_call 7; (with_reducible refine (prefix_Parse.calls k1 (rdOf ByteArray.empty y150 x35_1) t154 t155 true _ A27.out (Go.Proofs.YtbclogifkifaaaaDoor.Inv.ivb hInv)).mono ?_); rintro e w45 ⟨rfl, hb⟩; replace HO_33 := Aside0.mk (Kd.R_below (kR HO_33) hb); replace HB := bst hb; (try clear hb); (try clear hb2); (try clear hk); (try clear hi)) | ((with_reducible refine gate_dst (N := 12) rfl ?_); refine bx 12 (cs := #[.int .u32 0, .int .i64 0]) (t := 27) (h := ?_); intro gb157 hg w46 hbox hb; have BK157 := Aside0.mk hbox; have GW157 : Aside0 (w.heap.size ≤ gb157) := bge hg; have GE157 : Aside0 (w.heap.size ≤ gb157) := bge hg; replace HO_33 := Aside0.mk (Kd.R_below (kR HO_33) hb); replace HB := bst hb; clear hb hbox hg; obtain ⟨hcz47_0, hcz47_1, hfz47_0, hfz47_1⟩ := bc2 BK157) | (go_at_call 8; (with_reducible refine (maquettelaw05_may.calls k1 t154 t155 false _ A29.out).mono ?_); rintro e w48 ⟨rfl, hb⟩; replace HO_33 := Aside0.mk (Kd.R_below (by (with_reducible repeat (first | apply Kd.R_alloc | apply Kd.R_drewN | apply Kd.R_drew)); exact (Kd.R_mono (Kd.R_far (p := ⟨gb157, 1, none⟩) (Kd.R_far (p := ⟨gb157, 0, none⟩) (Kd.R_types HO_33.out BK157.out (by decide)) (fun _ hk => hk.2) (.int .u32 t154)) (fun _ hk => hk.2) (.int .i64 t155)) (fun _ h_ => h_.1))) hb); replace BK157 := Aside0.mk (blk_below (g := gb157) (o := .cells #[.int .u32 t154, .int .i64 t155] 27 (0, 0)) (bkp BK157) hb); replace HB := bst hb; (try clear hb); (try clear hb2); (try clear hk); (try clear hi)))
              repeat (go_quiet (first | (go_at_call 7; (with_reducible refine (prefix_Parse.calls k1 (rdOf ByteArray.empty y150 x35_1) t154 t155 true _ A27.out (Go.Proofs.YtbclogifkifaaaaDoor.Inv.ivb hInv)).mono ?_); rintro e w45 ⟨rfl, hb⟩; replace HO_33 := Aside0.mk (Kd.R_below (kR HO_33) hb); replace HB := bst hb; (try clear hb); (try clear hb2); (try clear hk); (try clear hi)) | ((with_reducible refine gate_dst (N := 12) rfl ?_); refine bx 12 (cs := #[.int .u32 0, .int .i64 0]) (t := 27) (h := ?_); intro gb157 hg w46 hbox hb; have BK157 := Aside0.mk hbox; have GW157 : Aside0 (w.heap.size ≤ gb157) := bge hg; have GE157 : Aside0 (w.heap.size ≤ gb157) := bge hg; replace HO_33 := Aside0.mk (Kd.R_below (kR HO_33) hb); replace HB := bst hb; clear hb hbox hg; obtain ⟨hcz47_0, hcz47_1, hfz47_0, hfz47_1⟩ := bc2 BK157) | (go_at_call 8; (with_reducible refine (maquettelaw05_may.calls k1 t154 t155 false _ A29.out).mono ?_); rintro e w48 ⟨rfl, hb⟩; replace HO_33 := Aside0.mk (Kd.R_below (by (with_reducible repeat (first | apply Kd.R_alloc | apply Kd.R_drewN | apply Kd.R_drew)); exact (Kd.R_mono (Kd.R_far (p := ⟨gb157, 1, none⟩) (Kd.R_far (p := ⟨gb157, 0, none⟩) (Kd.R_types HO_33.out BK157.out (by decide)) (fun _ hk => hk.2) (.int .u32 t154)) (fun _ hk => hk.2) (.int .i64 t155)) (fun _ h_ => h_.1))) hb); replace BK157 := Aside0.mk (blk_below (g := gb157) (o := .cells #[.int .u32 t154, .int .i64 t155] 27 (0, 0)) (bkp BK157) hb); replace HB := bst hb; (try clear hb); (try clear hb2); (try clear hk); (try clear hi))); try go_wp2_with (first | (go_at_call 7; (with_reducible refine (prefix_Parse.calls k1 (rdOf ByteArray.empty y150 x35_1) t154 t155 true _ A27.out (Go.Proofs.YtbclogifkifaaaaDoor.Inv.ivb hInv)).mono ?_); rintro e w45 ⟨rfl, hb⟩; replace HO_33 := Aside0.mk (Kd.R_below (kR HO_33) hb); replace HB := bst hb; (try clear hb); (try clear hb2); (try clear hk); (try clear hi)) | ((with_reducible refine gate_dst (N := 12) rfl ?_); refine bx 12 (cs := #[.int .u32 0, .int .i64 0]) (t := 27) (h := ?_); intro gb157 hg w46 hbox hb; have BK157 := Aside0.mk hbox; have GW157 : Aside0 (w.heap.size ≤ gb157) := bge hg; have GE157 : Aside0 (w.heap.size ≤ gb157) := bge hg; replace HO_33 := Aside0.mk (Kd.R_below (kR HO_33) hb); replace HB := bst hb; clear hb hbox hg; obtain ⟨hcz47_0, hcz47_1, hfz47_0, hfz47_1⟩ := bc2 BK157) | (go_at_call 8; (with_reducible refine (maquettelaw05_may.calls k1 t154 t155 false _ A29.out).mono ?_); rintro e w48 ⟨rfl, hb⟩; replace HO_33 := Aside0.mk (Kd.R_below (by (with_reducible repeat (first | apply Kd.R_alloc | apply Kd.R_drewN | apply Kd.R_drew)); exact (Kd.R_mono (Kd.R_far (p := ⟨gb157, 1, none⟩) (Kd.R_far (p := ⟨gb157, 0, none⟩) (Kd.R_types HO_33.out BK157.out (by decide)) (fun _ hk => hk.2) (.int .u32 t154)) (fun _ hk => hk.2) (.int .i64 t155)) (fun _ h_ => h_.1))) hb); replace BK157 := Aside0.mk (blk_below (g := gb157) (o := .cells #[.int .u32 t154, .int .i64 t155] 27 (0, 0)) (bkp BK157) hb); replace HB := bst hb; (try clear hb); (try clear hb2); (try clear hk); (try clear hi))))
              go_ret
              exact ⟨by first | rfl | (simp [errW_none, errW_some] <;> rfl) | (simp only [← hji10, ← hji14]; first | rfl | (simp [errW_none, errW_some] <;> rfl)) | (simp [*, errW_none, errW_some] <;> rfl), by repeat (first | (with_reducible first | exact HB.out | apply below_alloc | apply pw_below_drewN | apply below_drew1 | refine below_set ?_ GE157.out) | exact HB.out)⟩
            ·replace c28 := Bool.eq_false_iff.mpr c28
             subst c28
             have H1 : (if (!(t154 == 0) || (!(t155 == 0))) = true then (some false) else (maquettelaw05_PrefixParse.l0 k1 y150 (y150.length : Int) (wrap64 (x35_1 + 1)))) = some r := by rw [if_neg (show ¬ (false = true) by decide)] at H; exact H
             clear H
             have H := H1
             clear H1
             by_cases c49 : (!(t154 == 0) || (!(t155 == 0))) = true
             ·rw [if_pos c49] at H
              have c49b0 : (!(t154 == 0) || (!(t155 == 0))) = true := c49
              clear c49
              obtain rfl := Option.some.inj H
              have p153 : 0 ≤ (x35_1 : Int) := of_decide_eq_true (by first | (with_reducible assumption) | assumption)
              have q153 : x35_1 < (y150.length : Int) := of_decide_eq_true (by first | (with_reducible assumption) | assumption)
              obtain ⟨ad153, e153, hx153_0⟩ := Kd.at_string (Kd.R_reads' HO_33.out).2.2 x35_1 p153 q153
              cases e153
              replace p153 := eq_true p153
              replace q153 := eq_true q153
              go_wp2_with (first | (go_at_call 7; (with_reducible refine (prefix_Parse.calls k1 (rdOf ByteArray.empty y150 x35_1) t154 t155 false _ A27.out (Go.Proofs.YtbclogifkifaaaaDoor.Inv.ivb hInv)).mono ?_); rintro e w50 ⟨rfl, hb⟩; replace HO_33 := Aside0.mk (Kd.R_below (kR HO_33) hb); replace HB := bst hb; (try clear hb); (try clear hb2); (try clear hk); (try clear hi)) | ((with_reducible refine gate_dst (N := 12) rfl ?_); refine bx 12 (cs := #[.int .u32 0, .int .i64 0]) (t := 27) (h := ?_); intro gb157 hg w51 hbox hb; have BK157 := Aside0.mk hbox; have GW157 : Aside0 (w.heap.size ≤ gb157) := bge hg; have GE157 : Aside0 (w.heap.size ≤ gb157) := bge hg; replace HO_33 := Aside0.mk (Kd.R_below (kR HO_33) hb); replace HB := bst hb; clear hb hbox hg; obtain ⟨hcz52_0, hcz52_1, hfz52_0, hfz52_1⟩ := bc2 BK157))
              repeat (go_quiet (first | (go_at_call 7; (with_reducible refine (prefix_Parse.calls k1 (rdOf ByteArray.empty y150 x35_1) t154 t155 false _ A27.out (Go.Proofs.YtbclogifkifaaaaDoor.Inv.ivb hInv)).mono ?_); rintro e w50 ⟨rfl, hb⟩; replace HO_33 := Aside0.mk (Kd.R_below (kR HO_33) hb); replace HB := bst hb; (try clear hb); (try clear hb2); (try clear hk); (try clear hi)) | ((with_reducible refine gate_dst (N := 12) rfl ?_); refine bx 12 (cs := #[.int .u32 0, .int .i64 0]) (t := 27) (h := ?_); intro gb157 hg w51 hbox hb; have BK157 := Aside0.mk hbox; have GW157 : Aside0 (w.heap.size ≤ gb157) := bge hg; have GE157 : Aside0 (w.heap.size ≤ gb157) := bge hg; replace HO_33 := Aside0.mk (Kd.R_below (kR HO_33) hb); replace HB := bst hb; clear hb hbox hg; obtain ⟨hcz52_0, hcz52_1, hfz52_0, hfz52_1⟩ := bc2 BK157)); try go_wp2_with (first | (go_at_call 7; (with_reducible refine (prefix_Parse.calls k1 (rdOf ByteArray.empty y150 x35_1) t154 t155 false _ A27.out (Go.Proofs.YtbclogifkifaaaaDoor.Inv.ivb hInv)).mono ?_); rintro e w50 ⟨rfl, hb⟩; replace HO_33 := Aside0.mk (Kd.R_below (kR HO_33) hb); replace HB := bst hb; (try clear hb); (try clear hb2); (try clear hk); (try clear hi)) | ((with_reducible refine gate_dst (N := 12) rfl ?_); refine bx 12 (cs := #[.int .u32 0, .int .i64 0]) (t := 27) (h := ?_); intro gb157 hg w51 hbox hb; have BK157 := Aside0.mk hbox; have GW157 : Aside0 (w.heap.size ≤ gb157) := bge hg; have GE157 : Aside0 (w.heap.size ≤ gb157) := bge hg; replace HO_33 := Aside0.mk (Kd.R_below (kR HO_33) hb); replace HB := bst hb; clear hb hbox hg; obtain ⟨hcz52_0, hcz52_1, hfz52_0, hfz52_1⟩ := bc2 BK157)))
              go_ret
              exact ⟨by first | rfl | (simp [errW_none, errW_some] <;> rfl) | (simp only [← hji10, ← hji14]; first | rfl | (simp [errW_none, errW_some] <;> rfl)) | (simp [*, errW_none, errW_some] <;> rfl), by repeat (first | (with_reducible first | exact HB.out | apply below_alloc | apply pw_below_drewN | apply below_drew1 | refine below_set ?_ GE157.out) | exact HB.out)⟩
             ·rw [if_neg c49] at H
              have c49b0 : (!(t154 == 0) || (!(t155 == 0))) = false := by simpa using c49
              clear c49
              have H' := Aside0.mk H
              clear H
              have p153 : 0 ≤ (x35_1 : Int) := of_decide_eq_true (by first | (with_reducible assumption) | assumption)
              have q153 : x35_1 < (y150.length : Int) := of_decide_eq_true (by first | (with_reducible assumption) | assumption)
              obtain ⟨ad153, e153, hx153_0⟩ := Kd.at_string (Kd.R_reads' HO_33.out).2.2 x35_1 p153 q153
              cases e153
              replace p153 := eq_true p153
              replace q153 := eq_true q153
              go_wp2_with (first | (go_at_call 7; (with_reducible refine (prefix_Parse.calls k1 (rdOf ByteArray.empty y150 x35_1) t154 t155 false _ A27.out (Go.Proofs.YtbclogifkifaaaaDoor.Inv.ivb hInv)).mono ?_); rintro e w53 ⟨rfl, hb⟩; replace HO_33 := Aside0.mk (Kd.R_below (kR HO_33) hb); replace HB := bst hb; (try clear hb); (try clear hb2); (try clear hk); (try clear hi)) | ((with_reducible refine gate_dst (N := 12) rfl ?_); refine bx 12 (cs := #[.int .u32 0, .int .i64 0]) (t := 27) (h := ?_); intro gb157 hg w54 hbox hb; have BK157 := Aside0.mk hbox; have GW157 : Aside0 (w.heap.size ≤ gb157) := bge hg; have GE157 : Aside0 (w.heap.size ≤ gb157) := bge hg; replace HO_33 := Aside0.mk (Kd.R_below (kR HO_33) hb); replace HB := bst hb; clear hb hbox hg; obtain ⟨hcz55_0, hcz55_1, hfz55_0, hfz55_1⟩ := bc2 BK157))
              repeat (go_quiet (first | (go_at_call 7; (with_reducible refine (prefix_Parse.calls k1 (rdOf ByteArray.empty y150 x35_1) t154 t155 false _ A27.out (Go.Proofs.YtbclogifkifaaaaDoor.Inv.ivb hInv)).mono ?_); rintro e w53 ⟨rfl, hb⟩; replace HO_33 := Aside0.mk (Kd.R_below (kR HO_33) hb); replace HB := bst hb; (try clear hb); (try clear hb2); (try clear hk); (try clear hi)) | ((with_reducible refine gate_dst (N := 12) rfl ?_); refine bx 12 (cs := #[.int .u32 0, .int .i64 0]) (t := 27) (h := ?_); intro gb157 hg w54 hbox hb; have BK157 := Aside0.mk hbox; have GW157 : Aside0 (w.heap.size ≤ gb157) := bge hg; have GE157 : Aside0 (w.heap.size ≤ gb157) := bge hg; replace HO_33 := Aside0.mk (Kd.R_below (kR HO_33) hb); replace HB := bst hb; clear hb hbox hg; obtain ⟨hcz55_0, hcz55_1, hfz55_0, hfz55_1⟩ := bc2 BK157)); try go_wp2_with (first | (go_at_call 7; (with_reducible refine (prefix_Parse.calls k1 (rdOf ByteArray.empty y150 x35_1) t154 t155 false _ A27.out (Go.Proofs.YtbclogifkifaaaaDoor.Inv.ivb hInv)).mono ?_); rintro e w53 ⟨rfl, hb⟩; replace HO_33 := Aside0.mk (Kd.R_below (kR HO_33) hb); replace HB := bst hb; (try clear hb); (try clear hb2); (try clear hk); (try clear hi)) | ((with_reducible refine gate_dst (N := 12) rfl ?_); refine bx 12 (cs := #[.int .u32 0, .int .i64 0]) (t := 27) (h := ?_); intro gb157 hg w54 hbox hb; have BK157 := Aside0.mk hbox; have GW157 : Aside0 (w.heap.size ≤ gb157) := bge hg; have GE157 : Aside0 (w.heap.size ≤ gb157) := bge hg; replace HO_33 := Aside0.mk (Kd.R_below (kR HO_33) hb); replace HB := bst hb; clear hb hbox hg; obtain ⟨hcz55_0, hcz55_1, hfz55_0, hfz55_1⟩ := bc2 BK157)))
              go_roundg k1
              case measure => have := HK1.out; omega
              case rel => exact ⟨(wrap64 (x35_1 + 1)), (by first | rfl | (simp; done) | (simp [*]; done)), H', ⟨by have := HK1.out; omega⟩, ⟨by (with_reducible repeat (first | apply Kd.R_alloc | apply Kd.R_drewN | apply Kd.R_drew)); exact Kd.R_mono (Kd.R_far (p := ⟨gb157, 1, none⟩) (Kd.R_far (p := ⟨gb157, 0, none⟩) (Kd.R_types HO_33.out BK157.out (by decide)) (fun _ hk => hk.2) (.int .u32 t154)) (fun _ hk => hk.2) (.int .i64 t155)) (fun _ hk => trivial)⟩, ⟨by repeat (first | (with_reducible first | exact HB.out | apply below_alloc | apply pw_below_drewN | apply below_drew1 | refine below_set ?_ GE157.out) | exact HB.out)⟩⟩
           ·rw [if_neg c26] at H
            exact absurd H (by simp)
          ·rw [if_neg c25] at H
           exact absurd H (by simp)
         ·rw [if_neg c24] at H
          have c24b0 := decide_eq_false c24
          clear c24
          obtain rfl := Option.some.inj H
          go_wp2
          repeat (go_quiet (fail); try go_wp2)
          go_ret
          exact ⟨by first | rfl | (simp [errW_none, errW_some] <;> rfl) | (simp only [← hji10, ← hji14]; first | rfl | (simp [errW_none, errW_some] <;> rfl)) | (simp [*, errW_none, errW_some] <;> rfl), by repeat (first | (with_reducible first | exact HB.out | apply below_alloc | apply pw_below_drewN | apply below_drew1) | exact HB.out)⟩
      ·rw [if_neg c16] at H
       exact absurd H (by simp)
     ·rw [if_neg c15] at H
      exact absurd H (by simp)
    ·rw [if_neg c12] at H
     exact absurd H (by simp)
   ·rw [if_neg c11] at H
    exact absurd H (by simp)
 ·replace c6 := Bool.eq_false_iff.mpr c6
  subst c6
  have H1 : (some false) = some r := by rw [if_neg (show ¬ (false = true) by decide)] at H; exact H
  clear H
  have H := H1
  clear H1
  obtain rfl := Option.some.inj H
  go_enter Tryd.func3, Tryd.ntmps3
  go_wp2_with (first | (go_at_call 4; (with_reducible refine (maquettelaw05_awake.calls k  false _ A5.out (Go.Proofs.YtbclogifkifaaaaDoor.Inv.ivb hInv)).mono ?_); rintro e w56 ⟨rfl, hb⟩; replace HB := bst hb; (try clear hb); (try clear hb2); (try clear hk); (try clear hi)))
  repeat (go_quiet (first | (go_at_call 4; (with_reducible refine (maquettelaw05_awake.calls k  false _ A5.out (Go.Proofs.YtbclogifkifaaaaDoor.Inv.ivb hInv)).mono ?_); rintro e w56 ⟨rfl, hb⟩; replace HB := bst hb; (try clear hb); (try clear hb2); (try clear hk); (try clear hi))); try go_wp2_with (first | (go_at_call 4; (with_reducible refine (maquettelaw05_awake.calls k  false _ A5.out (Go.Proofs.YtbclogifkifaaaaDoor.Inv.ivb hInv)).mono ?_); rintro e w56 ⟨rfl, hb⟩; replace HB := bst hb; (try clear hb); (try clear hb2); (try clear hk); (try clear hi))))
  go_ret
  exact ⟨by first | rfl | (simp [errW_none, errW_some] <;> rfl) | (simp [*, errW_none, errW_some] <;> rfl), by repeat (first | (with_reducible first | exact HB.out | apply below_alloc | apply pw_below_drewN | apply below_drew1) | exact HB.out)⟩

end Go.Proofs.YtbclogifkifaaaaDoor.PPre
